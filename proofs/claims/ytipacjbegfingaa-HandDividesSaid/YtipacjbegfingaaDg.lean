/- The walks of mvcc's Newest, old, locked. -/
import Derived.Test.YtipacjbegfingaaDf
namespace Go.Proofs.Ytipacjbegfingaa
open Go.RowKit Fl
attribute [local go_sem] run_store_float

set_option maxRecDepth 100000 in
set_option maxHeartbeats 1000000 in
theorem newestOf_any (base g b1 b2 : Nat) (l : List Hs) (m : List Pn) (key : ByteArray) (w : World) (h : StoreW w base g b1 b2 l m) (hk : key.size ≤ maxLen) :
    Calls Try.prog 102 #[.pointer (some ⟨g, 0, none⟩), .string key] w fun e w' => e = .returned (.agg (seenArr key (lastV (versOf l key)))) ∧ Below w.heap.size w w' := by
  have hX : Below w.heap.size w (w.alloc (.cells (seenArr ⟨#[]⟩ zeroVn) 98)) := by go_grown
  have i4 := Blk.new w 98 (seenArr ⟨#[]⟩ zeroVn)
  have hN := newest_any base g b1 b2 l m key ⟨0, 0, 0⟩ _ (h.below hX) hk
  go_enter Try.func102, Try.ntmps102
  go_wp2_with (go_at_call 109; fail)
  refine hN.mono ?_
  rintro e w1 ⟨rfl, hb⟩
  have j4 := i4.below hb i4.lt
  go_wp2_with (refine wpList_store_row rfl 98 _ _ rfl _ _ rfl rfl _ _ j4 (by kernel_rfl) (by kernel_rfl) (by kernel_rfl) ?_)
  refine post_cell rfl (by rfl) (j4.setRow _) rfl rfl (by kernel_rfl) ?_
  exact ⟨rfl, below_setRow (hX.trans (hb.mono hX.size)) (by omega) _⟩

/-- is a version there that does not stand below? -/
def oldB (l : List Hs) (p : Pn) : Bool := p.w.any fun a => decide (0 ≤ (lastV (versOf l a.key)).s.cmp p.s)
set_option maxRecDepth 100000 in
set_option maxHeartbeats 4000000 in
theorem old_any (base g b1 b2 : Nat) (l : List Hs) (m : List Pn) (p : Pn) (A1 A2 : Option Addr) (n1 n2 c1 c2 : Nat) (w : World) (h : StoreW w base g b1 b2 l m) (hw : Sl WtRel 4 w w.heap.size A2 n2 p.w) (hn2 : n2 ≤ 1000000) :
    Calls Try.prog 86 #[.pointer (some ⟨g, 0, none⟩), p.val (.slice A1 n1 c1) (.slice A2 n2 c2)] w fun e w' => e = .returned (.bool (oldB l p)) ∧ Below w.heap.size w w' := by
  have hl := hw.1
  have hge : n2 ≤ p.w.length := by omega
  have hle : p.w.length ≤ n2 := by omega
  clear hl
  have hX : Below w.heap.size w (w.alloc (.cells #[.int .i64 p.t.c, .int .i64 p.t.l, .int .i64 p.t.s, .int .i64 p.s.w, .int .i64 p.s.l, .int .i64 p.s.n, .slice A1 n1 c1, .slice A2 n2 c2] 47)) := by go_grown
  have i3 := Blk.new w 47 #[.int .i64 p.t.c, .int .i64 p.t.l, .int .i64 p.t.s, .int .i64 p.s.w, .int .i64 p.s.l, .int .i64 p.s.n, .slice A1 n1 c1, .slice A2 n2 c2]
  have hs := h.below hX
  have hw' := (hw.below WtRel.kept hX).more WtRel.kept hX.size
  go_enter Try.func86, Try.ntmps86
  go_wp2
  generalize (w.alloc (.cells #[.int .i64 p.t.c, .int .i64 p.t.l, .int .i64 p.t.s, .int .i64 p.s.w, .int .i64 p.s.l, .int .i64 p.s.n, .slice A1 n1 c1, .slice A2 n2 c2] 47)) = w0 at *
  go_loopw [10] (fun i wr => AnyRel (fun a : Wt => decide (0 ≤ (lastV (versOf l a.key)).s.cmp p.s)) p.w w0 i wr) (fun i _ => n2 - (intOf i).toNat)
  case atStart => exact ⟨0, by omega, rfl, rfl, Below.refl _ _⟩
  case round =>
    obtain ⟨k, hk, rfl, ha0, hb⟩ := hrel
    have hzz := hb.size
    by_cases hlt : k < n2
    · obtain ⟨ad, a, rfl, ha, hbk, hok, c0, c1', c2', c3⟩ := (hw'.below WtRel.kept hb).wt hlt
      have hd1 : decide ((k : Int) < (n2 : Int)) = true := by simp; omega
      have hk0 : (0 : Int) ≤ (k : Int) := by omega
      have hk1 : (k : Int) < (n2 : Int) := by omega
      rw [any_drop ha] at ha0
      have hXr : Below wr.heap.size wr (wr.alloc (.cells #[.string a.key, .int .i64 a.v.k, .float .f64 a.v.n, .string a.v.t] 96)) := by go_grown
      have i6 := Blk.new wr 96 #[.string a.key, .int .i64 a.v.k, .float .f64 a.v.n, .string a.v.t]
      have hsr := (hs.below hb).below hXr
      have i3r := (i3.below hb i3.lt).alloc (.cells #[.string a.key, .int .i64 a.v.k, .float .f64 a.v.n, .string a.v.t] 96)
      have hbX := hb.trans (hXr.mono hzz)
      go_wp2
      generalize hg6 : wr.heap.size = g6 at *
      generalize (wr.alloc (.cells #[.string a.key, .int .i64 a.v.k, .float .f64 a.v.n, .string a.v.t] 96)) = wz at *
      have hN := newestOf_any base g b1 b2 l m a.key wz.drew (hsr.below (Below.refl _ _).drew) (reach_max hok.1)
      have hC := fun W => cmp_any (lastV (versOf l a.key)).s p.s W
      generalize hlv : lastV (versOf l a.key) = lv at *
      generalize hcv : lv.s.cmp p.s = cv at *
      have hF : ∀ W : World, (Instr.field 98 (.agg #[.string a.key, .int .i64 lv.v.k, .float .f64 lv.v.n, .string lv.v.t, .int .i64 lv.s.w, .int .i64 lv.s.l, .int .i64 lv.s.n]) 2).run Try.prog W = .ok (.agg #[.int .i64 lv.s.w, .int .i64 lv.s.l, .int .i64 lv.s.n]) W := fun _ => by kernel_rfl
      have l6 := i6.lt
      have l3 := i3r.lt
      obtain ⟨_, e0, e1, e2, e3⟩ := i6.four
      obtain ⟨_, x0, x1, x2, x3, x4, x5, x6, x7⟩ := i3r.eight
      go_region_held3 (fun w' => w'.cell? ⟨g6, 0, none⟩ = some (.string a.key) ∧ w'.cell? ⟨w.heap.size, 3, none⟩ = some (.int .i64 p.s.w) ∧ w'.cell? ⟨w.heap.size, 4, none⟩ = some (.int .i64 p.s.l) ∧ w'.cell? ⟨w.heap.size, 5, none⟩ = some (.int .i64 p.s.n))
        (first | exact ⟨e0, x3, x4, x5⟩ | exact ⟨(hb1.cell (p := ⟨_, _, none⟩) l6).trans e0, (hb1.cell (p := ⟨_, _, none⟩) l3).trans x3, (hb1.cell (p := ⟨_, _, none⟩) l3).trans x4, (hb1.cell (p := ⟨_, _, none⟩) l3).trans x5⟩ | exact ⟨(hb2.cell (p := ⟨_, _, none⟩) (Nat.lt_of_lt_of_le l6 hb1.size)).trans ((hb1.cell (p := ⟨_, _, none⟩) l6).trans e0), (hb2.cell (p := ⟨_, _, none⟩) (Nat.lt_of_lt_of_le l3 hb1.size)).trans ((hb1.cell (p := ⟨_, _, none⟩) l3).trans x3), (hb2.cell (p := ⟨_, _, none⟩) (Nat.lt_of_lt_of_le l3 hb1.size)).trans ((hb1.cell (p := ⟨_, _, none⟩) l3).trans x4), (hb2.cell (p := ⟨_, _, none⟩) (Nat.lt_of_lt_of_le l3 hb1.size)).trans ((hb1.cell (p := ⟨_, _, none⟩) l3).trans x5)⟩)
        (first | ((with_reducible refine hN.mono ?_); rintro e w1 ⟨rfl, hb1⟩; dsimp only [seenArr]) | ((with_reducible refine (hC _).mono ?_); rintro e w2 ⟨rfl, hb2⟩))
      have hb3 : Below w0.heap.size w0 w2 := hbX.trans (Below.mono ((Below.refl _ _).drew.trans (hb1.trans (hb2.mono hb1.size))) hbX.size)
      clear hb1 hb2 hN hC hF e0 e1 e2 e3 x0 x1 x2 x3 x4 x5 x6 x7
      by_cases hcc : 0 ≤ cv
      · have HF := Lib.hid (show oldB l p = true by unfold oldB; rw [← ha0]; simp [hcc])
        clear ha0 ha
        go_wp2
        go_ret
        rw [HF.out]
        exact ⟨rfl, hX.trans (hb3.mono hX.size)⟩
      · have HT := Lib.hid (show (p.w.drop (k + 1)).any (fun a : Wt => decide (0 ≤ (lastV (versOf l a.key)).s.cmp p.s)) = p.w.any (fun a : Wt => decide (0 ≤ (lastV (versOf l a.key)).s.cmp p.s)) by rw [← ha0]; simp [hcc])
        clear ha0 ha
        go_wp2
        go_roundw
        case rel => exact ⟨k + 1, by omega, by go_num, HT.out, hb3⟩
        case measure => simp [intOf]; omega
    · have hd1 : decide ((k : Int) < (n2 : Int)) = false := by simp; omega
      have HF := Lib.hid (show oldB l p = false by unfold oldB; rw [← ha0, List.drop_of_length_le (by omega)]; rfl)
      clear ha0
      go_wp2
      go_ret
      rw [HF.out]
      exact ⟨rfl, hX.trans (hb.mono hX.size)⟩
end Go.Proofs.Ytipacjbegfingaa
