/- Both readers side by side: words, plain facts; the walks of asks and stands. -/
import Derived.Test.YtglddefjmnjgdaaWd
import Derived.Deep.RegionHeld3
namespace Go.Proofs.Ytglddefjmnjgdaa
open Go.RowKit Fl

/-- both stand alike: where there is no fault the reference's place of a fault is open -/
structure Sim (s y : RS) : Prop where
  at_ : y.at_ = s.at_
  e : y.e = s.e
  p : s.e ≠ 0 → y.p = s.p
  zero : s.e = 0 → s.p = 0
theorem Sim.start : Sim ⟨0, 0, 0⟩ ⟨0, 0, 0⟩ := ⟨rfl, rfl, fun _ => rfl, fun _ => rfl⟩
theorem Sim.eq {s y : RS} (h : Sim s y) (he : s.e ≠ 0) : y = s := by
  cases s; cases y
  have h1 := h.at_; have h2 := h.e; have h3 := h.p he
  simp only at h1 h2 h3
  subst h1 h2 h3; rfl
theorem Sim.fail {s y : RS} (h : Sim s y) {e : Int} {q : Nat} (he : e ≠ 0) : Sim (rFail s e q) (rFail y e q) := by
  by_cases h1 : s.e = 0
  · have h2 : y.e = 0 := by rw [h.e, h1]
    have e1 : rFail s e q = ⟨s.at_, e, q⟩ := by unfold rFail; rw [if_pos ⟨h1, he⟩]
    have e2 : rFail y e q = ⟨s.at_, e, q⟩ := by unfold rFail; rw [if_pos ⟨h2, he⟩, h.at_]
    rw [e1, e2]
    exact ⟨rfl, rfl, fun _ => rfl, fun h => absurd h he⟩
  · rw [h.eq h1]
    have e1 : rFail s e q = s := by unfold rFail; rw [if_neg (fun h => h1 h.1)]
    rw [e1]
    exact ⟨rfl, rfl, fun _ => rfl, h.zero⟩
theorem Sim.move {s y : RS} (h : Sim s y) (k : Nat) : Sim ⟨k, s.e, s.p⟩ ⟨k, y.e, y.p⟩ := ⟨rfl, h.e, h.p, h.zero⟩
theorem Sim.lay {s y : RS} (h : Sim s y) (e : Int) : Sim (rFail s e s.at_) (xFail y e y.at_) := by
  by_cases he : e = 0
  · subst he
    have e1 : rFail s 0 s.at_ = s := by unfold rFail; rw [if_neg (fun h => h.2 rfl)]
    rw [e1]
    unfold xFail
    by_cases h1 : y.e = 0
    · rw [if_pos h1]
      have h2 : s.e = 0 := by rw [← h.e, h1]
      exact ⟨h.at_, by rw [h2], fun h3 => absurd h2 h3, h.zero⟩
    · rw [if_neg h1]; exact h
  · rw [xFail_eq he, h.at_]
    exact h.fail he
theorem sim_int {s y : RS} (l : List UInt8) (h : Sim s y) : (rInt l y).1 = (rInt l s).1 ∧ Sim (rInt l s).2 (rInt l y).2 := by
  unfold rInt
  rw [h.e, h.at_]
  by_cases h1 : s.e ≠ 0
  · rw [if_pos h1, if_pos h1]; exact ⟨rfl, h⟩
  · rw [if_neg h1, if_neg h1]
    cases dec l s.at_ with
    | short => exact ⟨rfl, h.fail (by omega)⟩
    | form => exact ⟨rfl, h.fail (by omega)⟩
    | ok n next => exact ⟨rfl, by have := h.move next; rw [h.e] at this; exact this⟩
theorem sim_flag {s y : RS} (l : List UInt8) (h : Sim s y) : (rFlag l y).1 = (rFlag l s).1 ∧ Sim (rFlag l s).2 (rFlag l y).2 := by
  unfold rFlag
  rw [h.e, h.at_]
  by_cases h1 : s.e ≠ 0
  · rw [if_pos h1, if_pos h1]; exact ⟨rfl, h⟩
  · rw [if_neg h1, if_neg h1]
    cases l[s.at_]? with
    | none => exact ⟨rfl, h.fail (by omega)⟩
    | some c =>
      simp only
      by_cases h2 : 1 < c.toNat
      · rw [if_pos h2, if_pos h2]; exact ⟨rfl, h.fail (by omega)⟩
      · rw [if_neg h2, if_neg h2]; exact ⟨rfl, by have := h.move (s.at_ + 1); rw [h.e] at this; exact this⟩
theorem sim_float {s y : RS} (l : List UInt8) (h : Sim s y) : (rFloat l y).1 = (rFloat l s).1 ∧ Sim (rFloat l s).2 (rFloat l y).2 := by
  unfold rFloat
  rw [h.e, h.at_]
  by_cases h1 : s.e ≠ 0
  · rw [if_pos h1, if_pos h1]; exact ⟨rfl, h⟩
  · rw [if_neg h1, if_neg h1]
    by_cases h2 : l.length - s.at_ < 8
    · rw [if_pos h2, if_pos h2]; exact ⟨rfl, h.fail (by omega)⟩
    · rw [if_neg h2, if_neg h2]
      simp only
      by_cases h3 : canonB (leV ((l.drop s.at_).take 8)) ≠ leV ((l.drop s.at_).take 8)
      · rw [if_pos h3, if_pos h3]; exact ⟨rfl, h.fail (by omega)⟩
      · rw [if_neg h3, if_neg h3]; exact ⟨rfl, by have := h.move (s.at_ + 8); rw [h.e] at this; exact this⟩
theorem sim_count {s y : RS} (l : List UInt8) (most e : Int) (he : e ≠ 0) (h : Sim s y) : (rCount l y most e).1 = (rCount l s most e).1 ∧ Sim (rCount l s most e).2 (rCount l y most e).2 := by
  unfold rCount
  rw [h.e, h.at_]
  by_cases h1 : s.e ≠ 0
  · rw [if_pos h1, if_pos h1]; exact ⟨rfl, h⟩
  · rw [if_neg h1, if_neg h1]
    cases dec l s.at_ with
    | short => exact ⟨rfl, h.fail (by omega)⟩
    | form => exact ⟨rfl, h.fail (by omega)⟩
    | ok n next =>
      simp only
      by_cases h2 : n < 0
      · rw [if_pos h2, if_pos h2]; exact ⟨rfl, h.fail (by omega)⟩
      · rw [if_neg h2, if_neg h2]
        by_cases h3 : most < n
        · rw [if_pos h3, if_pos h3]; exact ⟨rfl, h.fail he⟩
        · rw [if_neg h3, if_neg h3]; exact ⟨rfl, by have := h.move next; rw [h.e] at this; exact this⟩
theorem sim_text {s y : RS} (l : List UInt8) (most : Int) (h : Sim s y) : (rText l y most).1 = (rText l s most).1 ∧ Sim (rText l s most).2 (rText l y most).2 := by
  unfold rText
  rw [h.e, h.at_]
  by_cases h1 : s.e ≠ 0
  · rw [if_pos h1, if_pos h1]; exact ⟨rfl, h⟩
  · rw [if_neg h1, if_neg h1]
    cases dec l s.at_ with
    | short => exact ⟨rfl, h.fail (by omega)⟩
    | form => exact ⟨rfl, h.fail (by omega)⟩
    | ok n next =>
      simp only
      by_cases h2 : n < 0
      · rw [if_pos h2, if_pos h2]; exact ⟨rfl, h.fail (by omega)⟩
      · rw [if_neg h2, if_neg h2]
        by_cases h3 : most < n
        · rw [if_pos h3, if_pos h3]; exact ⟨rfl, h.fail (by omega)⟩
        · rw [if_neg h3, if_neg h3]
          by_cases h4 : (l.length : Int) - next < n
          · rw [if_pos h4, if_pos h4]; exact ⟨rfl, h.fail (by omega)⟩
          · rw [if_neg h4, if_neg h4]; exact ⟨rfl, by have := h.move (next + n.toNat); rw [h.e] at this; exact this⟩

/-- two readers over one row of bytes, each in memory of its own -/
structure Two (w : World) (g : Nat) (A : Option Addr) (n c : Nat) (g2 : Nat) (A2 : Option Addr) (c2 : Nat) (l : List UInt8) (s y : RS) : Prop where
  rd : Rd 73 w g A n c l s
  xd : Rd 58 w g2 A2 n c2 l y
  ne : g ≠ g2
  row : ∀ ad, A = some ad → 0 < n → ad.block ≠ g2
  row2 : ∀ ad, A2 = some ad → 0 < n → ad.block ≠ g
section
variable {w w' : World} {g : Nat} {A : Option Addr} {n c : Nat} {g2 : Nat} {A2 : Option Addr} {c2 : Nat} {l : List UInt8} {s y s' y' : RS}
theorem Two.left (h : Two w g A n c g2 A2 c2 l s y) (hr : Rd 73 w' g A n c l s') (hg : w.grownBy w' (some g)) : Two w' g A n c g2 A2 c2 l s' y :=
  ⟨hr, h.xd.far hg (fun e => h.ne e.symm) h.row2, h.ne, h.row, h.row2⟩
theorem Two.right (h : Two w g A n c g2 A2 c2 l s y) (hr : Rd 58 w' g2 A2 n c2 l y') (hg : w.grownBy w' (some g2)) : Two w' g A n c g2 A2 c2 l s y' :=
  ⟨h.rd.far hg h.ne h.row, hr, h.ne, h.row, h.row2⟩
theorem Two.below (h : Two w g A n c g2 A2 c2 l s y) (hb : Below w.heap.size w w') : Two w' g A n c g2 A2 c2 l s y := ⟨h.rd.below hb, h.xd.below hb, h.ne, h.row, h.row2⟩
theorem Two.drewN (h : Two w g A n c g2 A2 c2 l s y) (q : Nat) : Two (w.drewN q) g A n c g2 A2 c2 l s y := ⟨h.rd.drewN q, h.xd.drewN q, h.ne, h.row, h.row2⟩
end

def TwoPost (B : Nat) (w : World) (g : Nat) (A : Option Addr) (n c : Nat) (g2 : Nat) (A2 : Option Addr) (c2 : Nat) (l : List UInt8) : Ending → World → Prop := fun e w' =>
  e = .returned (.bool true) ∧ ∃ s' y', Two w' g A n c g2 A2 c2 l s' y' ∧ Sim s' y' ∧ Below B w w'

set_option maxRecDepth 100000 in
set_option maxHeartbeats 8000000 in
theorem asks_any (B g : Nat) (A : Option Addr) (n c : Nat) (g2 : Nat) (A2 : Option Addr) (c2 : Nat) (l : List UInt8) (s y : RS) (a : It) (w : World) (h : Two w g A n c g2 A2 c2 l s y) (hs : Sim s y) (hB : B ≤ w.heap.size) (hg : B ≤ g) (hg2 : B ≤ g2) :
    Calls Try.prog 34 #[.pointer (some ⟨g, 0, none⟩), .pointer (some ⟨g2, 0, none⟩), a.val] w (TwoPost B w g A n c g2 A2 c2 l) := by
  have hb1 := (Below.refl w.heap.size w).alloc (Nat.le_refl _) (.cells #[.int .i64 a.k, .int .i64 a.n, .bool a.b, .float .f64 a.x, .string a.s] 30)
  have h1 := h.below hb1
  have hblk := Blk.new w 30 #[.int .i64 a.k, .int .i64 a.n, .bool a.b, .float .f64 a.x, .string a.s]
  have hbx : Below B w (w.alloc (.cells #[.int .i64 a.k, .int .i64 a.n, .bool a.b, .float .f64 a.x, .string a.s] 30)) := hb1.mono hB
  have hgl := h.rd.blk.lt
  have hg2l := h.xd.blk.lt
  have hK : ∀ (u u' : World) (j : Nat), Blk u w.heap.size 30 #[.int .i64 a.k, .int .i64 a.n, .bool a.b, .float .f64 a.x, .string a.s] → u.grownBy u' (some j) → j < w.heap.size → Blk u' w.heap.size 30 #[.int .i64 a.k, .int .i64 a.n, .bool a.b, .float .f64 a.x, .string a.s] := fun u u' j hb hg hj => hb.grown hg (by intro e; injection e with e; omega)
  have hcl : ∀ u : World, Blk u w.heap.size 30 #[.int .i64 a.k, .int .i64 a.n, .bool a.b, .float .f64 a.x, .string a.s] → u.cell? ⟨w.heap.size, 1, none⟩ = some (.int .i64 a.n) := fun u hb => hb.cell 1
  have hcase : a.k = 0 ∨ (a.k ≠ 0 ∧ a.k = 1) ∨ (a.k ≠ 0 ∧ a.k ≠ 1 ∧ a.k = 2) ∨ (a.k ≠ 0 ∧ a.k ≠ 1 ∧ a.k ≠ 2 ∧ a.k = 3) ∨ (a.k ≠ 0 ∧ a.k ≠ 1 ∧ a.k ≠ 2 ∧ a.k ≠ 3 ∧ a.k = 4) ∨ (a.k ≠ 0 ∧ a.k ≠ 1 ∧ a.k ≠ 2 ∧ a.k ≠ 3 ∧ a.k ≠ 4 ∧ a.k = 5) ∨ (a.k ≠ 0 ∧ a.k ≠ 1 ∧ a.k ≠ 2 ∧ a.k ≠ 3 ∧ a.k ≠ 4 ∧ a.k ≠ 5 ∧ a.k = 6) ∨ (a.k ≠ 0 ∧ a.k ≠ 1 ∧ a.k ≠ 2 ∧ a.k ≠ 3 ∧ a.k ≠ 4 ∧ a.k ≠ 5 ∧ a.k ≠ 6) := by omega
  rcases hcase with h0 | ⟨h0, h1'⟩ | ⟨h0, h1', h2⟩ | ⟨h0, h1', h2, h3⟩ | ⟨h0, h1', h2, h3, h4⟩ | ⟨h0, h1', h2, h3, h4, h5⟩ | ⟨h0, h1', h2, h3, h4, h5, h6⟩ | ⟨h0, h1', h2, h3, h4, h5, h6⟩
  · have b0 : (a.k == 0) = true := by simp [h0]
    obtain ⟨hv, hsim⟩ := sim_int l hs
    have HV := Lib.hid hv
    clear h0 hv hblk
    go_enter Try.func34, Try.ntmps34
    go_wp2_with (first
      | ((with_reducible refine (wRInt _ _ _ _ _ _ _ h1.rd).mono ?_); rintro e w2 ⟨rfl, hr2, hg2'⟩; have h2 := h1.left hr2 hg2')
      | ((with_reducible refine (xRInt _ _ _ _ _ _ _ h2.xd).mono ?_); rintro e w3 ⟨rfl, hr3, hg3'⟩; have h3 := h2.right hr3 hg3'; rw [HV.out]))
    go_ret
    have hz2 := hg2'.size
    exact ⟨ret_bool (by simp), _, _, h3, hsim, (hbx.grown hg2' (by simp; omega) (by intro j hj; injection hj; omega)).grown hg3' (by simp at hz2; omega) (by intro j hj; injection hj; omega)⟩
  · obtain ⟨hv, hsim⟩ := sim_flag l hs
    have b0 : (a.k == 0) = false := by simp [h0]
    have b1 : (a.k == 1) = true := by simp [h1']
    have HV := Lib.hid hv
    clear h0 h1' hv hblk
    go_enter Try.func34, Try.ntmps34
    go_wp2_with (first
      | ((with_reducible refine (wRFlag _ _ _ _ _ _ _ h1.rd).mono ?_); rintro e w2 ⟨rfl, hr2, hg2'⟩; have h2 := h1.left hr2 hg2')
      | ((with_reducible refine (xRFlag _ _ _ _ _ _ _ h2.xd).mono ?_); rintro e w3 ⟨rfl, hr3, hg3'⟩; have h3 := h2.right hr3 hg3'; rw [HV.out]))
    go_ret
    have hz2 := hg2'.size
    exact ⟨ret_bool (by simp), _, _, h3, hsim, (hbx.grown hg2' (by simp; omega) (by intro j hj; injection hj; omega)).grown hg3' (by simp at hz2; omega) (by intro j hj; injection hj; omega)⟩
  · obtain ⟨hv, hsim⟩ := sim_float l hs
    have b0 : (a.k == 0) = false := by simp [h0]
    have b1 : (a.k == 1) = false := by simp [h1']
    have b2 : (a.k == 2) = true := by simp [h2]
    have HV := Lib.hid hv
    clear h0 h1' h2 hv hblk
    go_enter Try.func34, Try.ntmps34
    go_wp2_with (first
      | ((with_reducible refine (wRFloat _ _ _ _ _ _ _ h1.rd).mono ?_); rintro e w2 ⟨rfl, hr2, hg2'⟩; have h2 := h1.left hr2 hg2')
      | ((with_reducible refine (xRFloat _ _ _ _ _ _ _ h2.xd).mono ?_); rintro e w3 ⟨rfl, hr3, hg3'⟩; have h3 := h2.right hr3 hg3'; rw [HV.out])
      | ((with_reducible refine (rbits _ _ _).mono ?_); rintro e w4 ⟨rfl, rfl⟩))
    go_ret
    have hz2 := hg2'.size
    exact ⟨ret_bool (by simp), _, _, h3, hsim, (hbx.grown hg2' (by simp; omega) (by intro j hj; injection hj; omega)).grown hg3' (by simp at hz2; omega) (by intro j hj; injection hj; omega)⟩
  · obtain ⟨hv, hsim⟩ := sim_text l a.n hs
    have b0 : (a.k == 0) = false := by simp [h0]
    have b1 : (a.k == 1) = false := by simp [h1']
    have b2 : (a.k == 2) = false := by simp [h2]
    have b3 : (a.k == 3) = true := by simp [h3]
    have HV := Lib.hid hv
    clear h0 h1' h2 h3 hv
    go_enter Try.func34, Try.ntmps34
    go_wp2
    have hd : Two ((w.alloc (.cells #[.int .i64 a.k, .int .i64 a.n, .bool a.b, .float .f64 a.x, .string a.s] 30)).drew) g A n c g2 A2 c2 l s y := h1.drewN 1
    have c1 := hcl _ hblk
    have hblk1 : Blk ((w.alloc (.cells #[.int .i64 a.k, .int .i64 a.n, .bool a.b, .float .f64 a.x, .string a.s] 30)).drew) w.heap.size 30 #[.int .i64 a.k, .int .i64 a.n, .bool a.b, .float .f64 a.x, .string a.s] := hblk
    go_region_held3 (fun w' => w'.cell? ⟨w.heap.size, 1, none⟩ = some (.int .i64 a.n))
      (assumption)
      (first
        | ((with_reducible refine (wRText _ _ _ _ _ _ _ _ hd.rd).mono ?_); rintro e w2 ⟨rfl, hr2, hg2'⟩; have h2 := hd.left hr2 hg2'; have hk2 := hK _ _ _ hblk1 hg2' hgl; have k2 := hcl _ hk2)
        | ((with_reducible refine (xRText _ _ _ _ _ _ _ _ h2.xd).mono ?_); rintro e w3 ⟨rfl, hr3, hg3'⟩; have h3 := h2.right hr3 hg3'; rw [HV.out]; have k3 := hcl _ (hK _ _ _ hk2 hg3' hg2l)))
    go_wp2
    go_ret
    have hz2 := hg2'.size
    exact ⟨ret_bool (by simp), _, _, h3, hsim, (Below.grown (w := (w.alloc (.cells #[.int .i64 a.k, .int .i64 a.n, .bool a.b, .float .f64 a.x, .string a.s] 30)).drew) (hbx.trans ⟨rfl, rfl, rfl, Nat.le_refl _, fun _ _ => rfl⟩) hg2' (by show _ ≤ (w.alloc _).heap.size; simp; omega) (by intro j hj; injection hj; omega)).grown hg3' (by change (w.alloc _).heap.size ≤ _ at hz2; simp at hz2; omega) (by intro j hj; injection hj; omega)⟩
  · obtain ⟨hv, hsim⟩ := sim_count l a.n 3 (by omega) hs
    have b0 : (a.k == 0) = false := by simp [h0]
    have b1 : (a.k == 1) = false := by simp [h1']
    have b2 : (a.k == 2) = false := by simp [h2]
    have b3 : (a.k == 3) = false := by simp [h3]
    have b4 : (a.k == 4) = true := by simp [h4]
    have HV := Lib.hid hv
    clear h0 h1' h2 h3 h4 hv
    go_enter Try.func34, Try.ntmps34
    go_wp2
    have hd : Two ((w.alloc (.cells #[.int .i64 a.k, .int .i64 a.n, .bool a.b, .float .f64 a.x, .string a.s] 30)).drew) g A n c g2 A2 c2 l s y := h1.drewN 1
    have c1 := hcl _ hblk
    have hblk1 : Blk ((w.alloc (.cells #[.int .i64 a.k, .int .i64 a.n, .bool a.b, .float .f64 a.x, .string a.s] 30)).drew) w.heap.size 30 #[.int .i64 a.k, .int .i64 a.n, .bool a.b, .float .f64 a.x, .string a.s] := hblk
    go_region_held3 (fun w' => w'.cell? ⟨w.heap.size, 1, none⟩ = some (.int .i64 a.n))
      (assumption)
      (first
        | ((with_reducible refine (wRCount _ _ _ _ _ _ _ _ hd.rd).mono ?_); rintro e w2 ⟨rfl, hr2, hg2'⟩; have h2 := hd.left hr2 hg2'; have hk2 := hK _ _ _ hblk1 hg2' hgl; have k2 := hcl _ hk2)
        | ((with_reducible refine (xRCount _ _ _ _ _ _ _ _ h2.xd).mono ?_); rintro e w3 ⟨rfl, hr3, hg3'⟩; have h3 := h2.right hr3 hg3'; rw [HV.out]; have k3 := hcl _ (hK _ _ _ hk2 hg3' hg2l)))
    go_wp2
    go_ret
    have hz2 := hg2'.size
    exact ⟨ret_bool (by simp), _, _, h3, hsim, (Below.grown (w := (w.alloc (.cells #[.int .i64 a.k, .int .i64 a.n, .bool a.b, .float .f64 a.x, .string a.s] 30)).drew) (hbx.trans ⟨rfl, rfl, rfl, Nat.le_refl _, fun _ _ => rfl⟩) hg2' (by show _ ≤ (w.alloc _).heap.size; simp; omega) (by intro j hj; injection hj; omega)).grown hg3' (by change (w.alloc _).heap.size ≤ _ at hz2; simp at hz2; omega) (by intro j hj; injection hj; omega)⟩
  · obtain ⟨hv, hsim⟩ := sim_count l a.n 4 (by omega) hs
    have b0 : (a.k == 0) = false := by simp [h0]
    have b1 : (a.k == 1) = false := by simp [h1']
    have b2 : (a.k == 2) = false := by simp [h2]
    have b3 : (a.k == 3) = false := by simp [h3]
    have b4 : (a.k == 4) = false := by simp [h4]
    have b5 : (a.k == 5) = true := by simp [h5]
    have HV := Lib.hid hv
    clear h0 h1' h2 h3 h4 h5 hv
    go_enter Try.func34, Try.ntmps34
    go_wp2
    have hd : Two ((w.alloc (.cells #[.int .i64 a.k, .int .i64 a.n, .bool a.b, .float .f64 a.x, .string a.s] 30)).drew) g A n c g2 A2 c2 l s y := h1.drewN 1
    have c1 := hcl _ hblk
    have hblk1 : Blk ((w.alloc (.cells #[.int .i64 a.k, .int .i64 a.n, .bool a.b, .float .f64 a.x, .string a.s] 30)).drew) w.heap.size 30 #[.int .i64 a.k, .int .i64 a.n, .bool a.b, .float .f64 a.x, .string a.s] := hblk
    go_region_held3 (fun w' => w'.cell? ⟨w.heap.size, 1, none⟩ = some (.int .i64 a.n))
      (assumption)
      (first
        | ((with_reducible refine (wRChoice _ _ _ _ _ _ _ _ hd.rd).mono ?_); rintro e w2 ⟨rfl, hr2, hg2'⟩; have h2 := hd.left hr2 hg2'; have hk2 := hK _ _ _ hblk1 hg2' hgl; have k2 := hcl _ hk2)
        | ((with_reducible refine (xRChoice _ _ _ _ _ _ _ _ h2.xd).mono ?_); rintro e w3 ⟨rfl, hr3, hg3'⟩; have h3 := h2.right hr3 hg3'; rw [HV.out]; have k3 := hcl _ (hK _ _ _ hk2 hg3' hg2l)))
    go_wp2
    go_ret
    have hz2 := hg2'.size
    exact ⟨ret_bool (by simp), _, _, h3, hsim, (Below.grown (w := (w.alloc (.cells #[.int .i64 a.k, .int .i64 a.n, .bool a.b, .float .f64 a.x, .string a.s] 30)).drew) (hbx.trans ⟨rfl, rfl, rfl, Nat.le_refl _, fun _ _ => rfl⟩) hg2' (by show _ ≤ (w.alloc _).heap.size; simp; omega) (by intro j hj; injection hj; omega)).grown hg3' (by change (w.alloc _).heap.size ≤ _ at hz2; simp at hz2; omega) (by intro j hj; injection hj; omega)⟩
  · have hsim := hs.lay a.n
    have b0 : (a.k == 0) = false := by simp [h0]
    have b1 : (a.k == 1) = false := by simp [h1']
    have b2 : (a.k == 2) = false := by simp [h2]
    have b3 : (a.k == 3) = false := by simp [h3]
    have b4 : (a.k == 4) = false := by simp [h4]
    have b5 : (a.k == 5) = false := by simp [h5]
    have b6 : (a.k == 6) = true := by simp [h6]
    clear h0 h1' h2 h3 h4 h5 h6 hblk
    go_enter Try.func34, Try.ntmps34
    go_wp2_with (first
      | ((with_reducible refine (wRFail _ _ _ _ _ _ _ _ h1.rd).mono ?_); rintro e w2 ⟨rfl, hr2, hg2'⟩; have h2 := h1.left hr2 hg2')
      | ((with_reducible refine (xRFail _ _ _ _ _ _ _ _ h2.xd).mono ?_); rintro e w3 ⟨rfl, hr3, hg3'⟩; have h3 := h2.right hr3 hg3'))
    go_ret
    have hz2 := hg2'.size
    exact ⟨rfl, _, _, h3, hsim, (hbx.grown hg2' (by simp; omega) (by intro j hj; injection hj; omega)).grown hg3' (by simp at hz2; omega) (by intro j hj; injection hj; omega)⟩
  · skip
    have b0 : (a.k == 0) = false := by simp [h0]
    have b1 : (a.k == 1) = false := by simp [h1']
    have b2 : (a.k == 2) = false := by simp [h2]
    have b3 : (a.k == 3) = false := by simp [h3]
    have b4 : (a.k == 4) = false := by simp [h4]
    have b5 : (a.k == 5) = false := by simp [h5]
    have b6 : (a.k == 6) = false := by simp [h6]
    clear h0 h1' h2 h3 h4 h5 h6 hblk
    go_enter Try.func34, Try.ntmps34
    go_wp2
    go_ret
    exact ⟨rfl, _, _, h1, hs, hbx⟩
end Go.Proofs.Ytglddefjmnjgdaa
