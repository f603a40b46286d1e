/- Two rows joined and sorted, at writes, texts, histories. -/
import Derived.Test.YtipacjbegfingaaGreatYacg
import Derived.Test.YtipacjbegfingaaGreatYach
namespace Go.Proofs.YtipacjbegfingaaGreat
set_option linter.unusedVariables false
open Go.RowKit
attribute [local go_sem] run_store_float

/-- the rows' elements, sorted -/
def Met2 {α : Type} (k : α → ByteArray) (m l : List α) : Prop :=
  l.length = m.length ∧ (∃ p q : Nat → Nat, (∀ i, q (p i) = i) ∧ (∀ i, p (q i) = i) ∧ (∀ i, i < m.length → p i < m.length) ∧ (∀ i, i < m.length → q i < m.length) ∧ ∀ i, i < m.length → l[i]? = m[p i]?) ∧ ∀ (i j : Nat) (x y : α), i ≤ j → l[i]? = some x → l[j]? = some y → bl (k y) (k x) = false
theorem Pm.symm {α : Type} {a b : Nat} {f g : Nat → α} (x : Pm a b f g) : Pm a b g f := by
  obtain ⟨p, q, h1, h2, h3, h4⟩ := x
  refine ⟨q, p, h2, h1, fun k hk => ?_, fun k => by rw [h4, h2]⟩
  have := h3 k hk
  rw [← this, h1, this]
theorem met_of {α : Type} {k : α → ByteArray} {m : List α} {d : α} {f' : Nat → α} (hp : Pm 0 m.length (fun i => m.getD i d) f') (hs : Srt (fun x y => bl (k x) (k y)) f' 0 m.length) : Met2 k m ((List.range m.length).map f') := by
  have hl : ((List.range m.length).map f').length = m.length := by simp
  have hg : ∀ i, i < m.length → ((List.range m.length).map f')[i]? = some (f' i) := fun i hi => by
    rw [List.getElem?_map, List.getElem?_range hi]; rfl
  refine ⟨hl, ?_, fun i j x y hij hx hy => ?_⟩
  · obtain ⟨p, q, h1, h2, h3, h4⟩ := hp
    have h5 : ∀ k, k < m.length → p k < m.length := fun k hk => by
      rcases Nat.lt_or_ge (p k) m.length with hl | hl
      · exact hl
      · have e := h3 (p k) (.inr hl)
        have := congrArg q e
        rw [h1, h1] at this; omega
    refine ⟨p, q, h1, h2, h5, fun i hi => ?_, fun i hi => ?_⟩
    · rcases Nat.lt_or_ge (q i) m.length with hl | hl
      · exact hl
      · have e := h3 (q i) (.inr hl)
        rw [h2] at e; omega
    · rw [hg i hi, h4 i]
      show some (m.getD (p i) d) = _
      rw [List.getD_eq_getElem?_getD, List.getElem?_eq_getElem (h5 i hi)]; rfl
  · have hi : i < m.length := by rw [← hl]; exact (List.getElem?_eq_some_iff.1 hx).1
    have hj : j < m.length := by rw [← hl]; exact (List.getElem?_eq_some_iff.1 hy).1
    rw [hg i hi] at hx
    rw [hg j hj] at hy
    obtain rfl := Option.some.inj hx
    obtain rfl := Option.some.inj hy
    exact hs i j (Nat.zero_le _) hij hj
theorem met_nil {α : Type} (k : α → ByteArray) : Met2 k ([] : List α) [] :=
  ⟨rfl, ⟨id, id, fun _ => rfl, fun _ => rfl, fun _ h => h, fun _ h => h, fun i h => absurd h (Nat.not_lt_zero _)⟩, fun i j x y _ hx => by simp at hx⟩

set_option maxHeartbeats 1000000 in
theorem sortNone_w (A : Option Addr) (c bk : Nat) (w : World) :
    Calls Tryz.prog 89 #[.slice A 0 c, .func (.func 90) #[] #[.pointer (some ⟨bk, 0, none⟩)]] w fun e w' => e = .returned (.tuple #[]) ∧ w = w' := by
  have hI : ∀ w : World, Calls Tryz.prog 133 #[.slice A 0 c, .int .i64 0, .int .i64 0, .func (.func 90) #[] #[.pointer (some ⟨bk, 0, none⟩)]] w fun e w' => e = .returned (.tuple #[]) ∧ w = w' := fun w => by
    go_enter Tryz.func133, Tryz.ntmps133
    go_wp2
    go_loopw [8] (fun u wr => u = .int .i64 1 ∧ w = wr) (fun _ _ => 0)
    case atStart => exact ⟨rfl, rfl⟩
    case round =>
      obtain ⟨rfl, rfl⟩ := hrel
      go_wp2
      go_end0
      exact ⟨rfl, rfl⟩
  have hS : ∀ w : World, Calls Tryz.prog 120 #[.slice A 0 c, .int .i64 0, .func (.func 90) #[] #[.pointer (some ⟨bk, 0, none⟩)]] w fun e w' => e = .returned (.tuple #[]) ∧ w = w' := fun w => by
    go_enter Tryz.func120, Tryz.ntmps120
    go_wp2
    go_loopw [7, 8] (fun u v wr => u = .int .i64 0 ∧ v = .int .i64 20 ∧ w = wr) (fun _ _ _ => 0)
    case atStart => exact ⟨rfl, rfl, rfl⟩
    case round =>
      obtain ⟨rfl, rfl, rfl⟩ := hrel
      go_wp2_with ((with_reducible refine (hI _).mono ?_); rintro e w5 ⟨rfl, rfl⟩)
      go_loopw [6] (fun u wr => u = .int .i64 20 ∧ w = wr) (fun _ _ => 0)
      case atStart => exact ⟨rfl, rfl⟩
      case round =>
        obtain ⟨rfl, rfl⟩ := hrel
        go_wp2
        go_end0
        exact ⟨rfl, rfl⟩
  go_enter Tryz.func89, Tryz.ntmps89
  go_wp2_with ((with_reducible refine (hS _).mono ?_); rintro e w5 ⟨rfl, rfl⟩)
  go_end0
  exact ⟨rfl, rfl⟩
set_option maxHeartbeats 2000000 in
theorem meet_w (A1 A2 : Option Addr) (n1 n2 c1 c2 : Nat) (l1 l2 : List Wt) (w : World) (h1 : Reads w w.heap.size 4 A1 n1 (l1.flatMap Wt.cells)) (h2 : Reads w w.heap.size 4 A2 n2 (l2.flatMap Wt.cells)) (hl1 : l1.length = n1) (hl2 : l2.length = n2) (hn1 : n1 ≤ 100000000) (hn2 : n2 ≤ 100000000) :
    Calls Tryz.prog 56 #[.slice A1 n1 c1, .slice A2 n2 c2, .func (.func 57) #[] #[]] w fun e w' => ∃ v l, e = .returned v ∧ OwnL Wt.cells 86 4 w.heap.size w' v l ∧ Met2 Wt.key (l1 ++ l2) l ∧ Below w.heap.size w w' := by
  have hX : Below w.heap.size w ((w.alloc (.cells #[.func (.func 57) #[] #[]] 102)).alloc (.cells #[.slice A1 n1 c1, .slice A2 n2 c2] 43)) := by go_grown
  have bK : Blk ((w.alloc (.cells #[.func (.func 57) #[] #[]] 102)).alloc (.cells #[.slice A1 n1 c1, .slice A2 n2 c2] 43)) w.heap.size 102 #[.func (.func 57) #[] #[]] := (Blk.new _ _ _).alloc _
  have bR : Blk ((w.alloc (.cells #[.func (.func 57) #[] #[]] 102)).alloc (.cells #[.slice A1 n1 c1, .slice A2 n2 c2] 43)) (w.heap.size + 1) 43 #[.slice A1 n1 c1, .slice A2 n2 c2] := Blk.new' _ _ (by simp)
  have hz : w.heap.size ≤ (((w.alloc (.cells #[.func (.func 57) #[] #[]] 102)).alloc (.cells #[.slice A1 n1 c1, .slice A2 n2 c2] 43))).heap.size := hX.size
  have hC := concat_w A1 A2 n1 n2 c1 c2 l1 l2 (w.heap.size + 1) _ ((w.alloc (.cells #[.func (.func 57) #[] #[]] 102)).alloc (.cells #[.slice A1 n1 c1, .slice A2 n2 c2] 43)) bR (h1.past hX hz) (h2.past hX hz) hl1 hl2 hn1 hn2
  have hlen : (l1 ++ l2).length ≤ 200000000 := by rw [List.length_append]; omega
  clear h1 h2 hl1 hl2
  go_enter Tryz.func56, Tryz.ntmps56
  go_wp2_with ((with_reducible refine hC.mono ?_); rintro e w5 ⟨v5, rfl, ho5, hb5⟩)
  have bK5 := bK.below hb5 bK.lt
  have hlK := bK.lt
  have W5 := hX.trans (hb5.mono hz)
  by_cases h0 : (l1 ++ l2).length = 0
  · have hnil := List.length_eq_zero_iff.1 h0
    have HN := Lib.hid hnil
    rw [hnil] at ho5
    clear hnil
    obtain ⟨A9, c9, hv, -⟩ := ho5.form
    rw [List.length_nil] at hv
    subst hv
    have hS := sortNone_w A9 c9 w.heap.size w5
    go_wp2_with ((with_reducible refine hS.mono ?_); rintro e w6 ⟨rfl, rfl⟩)
    go_ret
    rw [HN.out]
    exact ⟨_, [], rfl, ho5.mono_base hz, met_nil _, W5⟩
  · obtain ⟨g, c, rfl, hg, hr⟩ := OwnL.rowF (by omega) wt_len ho5 (⟨⟨#[]⟩, ⟨0, 0, ⟨#[]⟩⟩⟩ : Wt) (by omega)
    have hS := sortStable_w g c (l1 ++ l2).length _ w.heap.size w5 hr (by omega) (bK5.cell 0) bK5.lt (by omega)
    go_wp2_with ((with_reducible refine hS.mono ?_); rintro e w6 ⟨rfl, f', hr6, hp6, hs6, ha6⟩)
    go_ret
    exact ⟨_, _, rfl, by simpa using hr6.own (by omega) wt_len (Nat.le_trans hz hg), met_of hp6 hs6, W5.trans (ha6.under (Nat.le_trans hz hg) W5.size)⟩

set_option maxHeartbeats 1000000 in
theorem sortNone_s (A : Option Addr) (c bk : Nat) (w : World) :
    Calls Tryz.prog 86 #[.slice A 0 c, .func (.func 87) #[] #[.pointer (some ⟨bk, 0, none⟩)]] w fun e w' => e = .returned (.tuple #[]) ∧ w = w' := by
  have hI : ∀ w : World, Calls Tryz.prog 131 #[.slice A 0 c, .int .i64 0, .int .i64 0, .func (.func 87) #[] #[.pointer (some ⟨bk, 0, none⟩)]] w fun e w' => e = .returned (.tuple #[]) ∧ w = w' := fun w => by
    go_enter Tryz.func131, Tryz.ntmps131
    go_wp2
    go_loopw [8] (fun u wr => u = .int .i64 1 ∧ w = wr) (fun _ _ => 0)
    case atStart => exact ⟨rfl, rfl⟩
    case round =>
      obtain ⟨rfl, rfl⟩ := hrel
      go_wp2
      go_end0
      exact ⟨rfl, rfl⟩
  have hS : ∀ w : World, Calls Tryz.prog 118 #[.slice A 0 c, .int .i64 0, .func (.func 87) #[] #[.pointer (some ⟨bk, 0, none⟩)]] w fun e w' => e = .returned (.tuple #[]) ∧ w = w' := fun w => by
    go_enter Tryz.func118, Tryz.ntmps118
    go_wp2
    go_loopw [7, 8] (fun u v wr => u = .int .i64 0 ∧ v = .int .i64 20 ∧ w = wr) (fun _ _ _ => 0)
    case atStart => exact ⟨rfl, rfl, rfl⟩
    case round =>
      obtain ⟨rfl, rfl, rfl⟩ := hrel
      go_wp2_with ((with_reducible refine (hI _).mono ?_); rintro e w5 ⟨rfl, rfl⟩)
      go_loopw [6] (fun u wr => u = .int .i64 20 ∧ w = wr) (fun _ _ => 0)
      case atStart => exact ⟨rfl, rfl⟩
      case round =>
        obtain ⟨rfl, rfl⟩ := hrel
        go_wp2
        go_end0
        exact ⟨rfl, rfl⟩
  go_enter Tryz.func86, Tryz.ntmps86
  go_wp2_with ((with_reducible refine (hS _).mono ?_); rintro e w5 ⟨rfl, rfl⟩)
  go_end0
  exact ⟨rfl, rfl⟩
set_option maxHeartbeats 2000000 in
theorem meet_s (A1 A2 : Option Addr) (n1 n2 c1 c2 : Nat) (l1 l2 : List ByteArray) (w : World) (h1 : Reads w w.heap.size 1 A1 n1 (l1.flatMap keyCells)) (h2 : Reads w w.heap.size 1 A2 n2 (l2.flatMap keyCells)) (hl1 : l1.length = n1) (hl2 : l2.length = n2) (hn1 : n1 ≤ 100000000) (hn2 : n2 ≤ 100000000) :
    Calls Tryz.prog 54 #[.slice A1 n1 c1, .slice A2 n2 c2, .func (.func 55) #[] #[]] w fun e w' => ∃ v l, e = .returned v ∧ OwnL keyCells 9 1 w.heap.size w' v l ∧ Met2 id (l1 ++ l2) l ∧ Below w.heap.size w w' := by
  have hX : Below w.heap.size w ((w.alloc (.cells #[.func (.func 55) #[] #[]] 100)).alloc (.cells #[.slice A1 n1 c1, .slice A2 n2 c2] 42)) := by go_grown
  have bK : Blk ((w.alloc (.cells #[.func (.func 55) #[] #[]] 100)).alloc (.cells #[.slice A1 n1 c1, .slice A2 n2 c2] 42)) w.heap.size 100 #[.func (.func 55) #[] #[]] := (Blk.new _ _ _).alloc _
  have bR : Blk ((w.alloc (.cells #[.func (.func 55) #[] #[]] 100)).alloc (.cells #[.slice A1 n1 c1, .slice A2 n2 c2] 42)) (w.heap.size + 1) 42 #[.slice A1 n1 c1, .slice A2 n2 c2] := Blk.new' _ _ (by simp)
  have hz : w.heap.size ≤ (((w.alloc (.cells #[.func (.func 55) #[] #[]] 100)).alloc (.cells #[.slice A1 n1 c1, .slice A2 n2 c2] 42))).heap.size := hX.size
  have hC := concat_s A1 A2 n1 n2 c1 c2 l1 l2 (w.heap.size + 1) _ ((w.alloc (.cells #[.func (.func 55) #[] #[]] 100)).alloc (.cells #[.slice A1 n1 c1, .slice A2 n2 c2] 42)) bR (h1.past hX hz) (h2.past hX hz) hl1 hl2 hn1 hn2
  have hlen : (l1 ++ l2).length ≤ 200000000 := by rw [List.length_append]; omega
  clear h1 h2 hl1 hl2
  go_enter Tryz.func54, Tryz.ntmps54
  go_wp2_with ((with_reducible refine hC.mono ?_); rintro e w5 ⟨v5, rfl, ho5, hb5⟩)
  have bK5 := bK.below hb5 bK.lt
  have hlK := bK.lt
  have W5 := hX.trans (hb5.mono hz)
  by_cases h0 : (l1 ++ l2).length = 0
  · have hnil := List.length_eq_zero_iff.1 h0
    have HN := Lib.hid hnil
    rw [hnil] at ho5
    clear hnil
    obtain ⟨A9, c9, hv, -⟩ := ho5.form
    rw [List.length_nil] at hv
    subst hv
    have hS := sortNone_s A9 c9 w.heap.size w5
    go_wp2_with ((with_reducible refine hS.mono ?_); rintro e w6 ⟨rfl, rfl⟩)
    go_ret
    rw [HN.out]
    exact ⟨_, [], rfl, ho5.mono_base hz, met_nil _, W5⟩
  · obtain ⟨g, c, rfl, hg, hr⟩ := OwnL.rowF (by omega) ky_len ho5 (⟨#[]⟩ : ByteArray) (by omega)
    have hS := sortStable_s g c (l1 ++ l2).length _ w.heap.size w5 hr (by omega) (bK5.cell 0) bK5.lt (by omega)
    go_wp2_with ((with_reducible refine hS.mono ?_); rintro e w6 ⟨rfl, f', hr6, hp6, hs6, ha6⟩)
    go_ret
    exact ⟨_, _, rfl, by simpa using hr6.own (by omega) ky_len (Nat.le_trans hz hg), met_of hp6 hs6, W5.trans (ha6.under (Nat.le_trans hz hg) W5.size)⟩

set_option maxHeartbeats 1000000 in
theorem sortNone_h (A : Option Addr) (c bk : Nat) (w : World) :
    Calls Tryz.prog 52 #[.slice A 0 c, .func (.func 53) #[] #[.pointer (some ⟨bk, 0, none⟩)]] w fun e w' => e = .returned (.tuple #[]) ∧ w = w' := by
  have hI : ∀ w : World, Calls Tryz.prog 115 #[.slice A 0 c, .int .i64 0, .int .i64 0, .func (.func 53) #[] #[.pointer (some ⟨bk, 0, none⟩)]] w fun e w' => e = .returned (.tuple #[]) ∧ w = w' := fun w => by
    go_enter Tryz.func115, Tryz.ntmps115
    go_wp2
    go_loopw [8] (fun u wr => u = .int .i64 1 ∧ w = wr) (fun _ _ => 0)
    case atStart => exact ⟨rfl, rfl⟩
    case round =>
      obtain ⟨rfl, rfl⟩ := hrel
      go_wp2
      go_end0
      exact ⟨rfl, rfl⟩
  have hS : ∀ w : World, Calls Tryz.prog 84 #[.slice A 0 c, .int .i64 0, .func (.func 53) #[] #[.pointer (some ⟨bk, 0, none⟩)]] w fun e w' => e = .returned (.tuple #[]) ∧ w = w' := fun w => by
    go_enter Tryz.func84, Tryz.ntmps84
    go_wp2
    go_loopw [7, 8] (fun u v wr => u = .int .i64 0 ∧ v = .int .i64 20 ∧ w = wr) (fun _ _ _ => 0)
    case atStart => exact ⟨rfl, rfl, rfl⟩
    case round =>
      obtain ⟨rfl, rfl, rfl⟩ := hrel
      go_wp2_with ((with_reducible refine (hI _).mono ?_); rintro e w5 ⟨rfl, rfl⟩)
      go_loopw [6] (fun u wr => u = .int .i64 20 ∧ w = wr) (fun _ _ => 0)
      case atStart => exact ⟨rfl, rfl⟩
      case round =>
        obtain ⟨rfl, rfl⟩ := hrel
        go_wp2
        go_end0
        exact ⟨rfl, rfl⟩
  go_enter Tryz.func52, Tryz.ntmps52
  go_wp2_with ((with_reducible refine (hS _).mono ?_); rintro e w5 ⟨rfl, rfl⟩)
  go_end0
  exact ⟨rfl, rfl⟩
set_option maxHeartbeats 2000000 in
theorem meet_h (A1 A2 : Option Addr) (n1 n2 c1 c2 : Nat) (l1 l2 : List Hh) (w : World) (h1 : Reads w w.heap.size 2 A1 n1 (l1.flatMap Hh.cells)) (h2 : Reads w w.heap.size 2 A2 n2 (l2.flatMap Hh.cells)) (hl1 : l1.length = n1) (hl2 : l2.length = n2) (hn1 : n1 ≤ 100000000) (hn2 : n2 ≤ 100000000) :
    Calls Tryz.prog 24 #[.slice A1 n1 c1, .slice A2 n2 c2, .func (.func 25) #[] #[]] w fun e w' => ∃ v l, e = .returned v ∧ OwnL Hh.cells 59 2 w.heap.size w' v l ∧ Met2 Hh.key (l1 ++ l2) l ∧ Below w.heap.size w w' := by
  have hX : Below w.heap.size w ((w.alloc (.cells #[.func (.func 25) #[] #[]] 66)).alloc (.cells #[.slice A1 n1 c1, .slice A2 n2 c2] 27)) := by go_grown
  have bK : Blk ((w.alloc (.cells #[.func (.func 25) #[] #[]] 66)).alloc (.cells #[.slice A1 n1 c1, .slice A2 n2 c2] 27)) w.heap.size 66 #[.func (.func 25) #[] #[]] := (Blk.new _ _ _).alloc _
  have bR : Blk ((w.alloc (.cells #[.func (.func 25) #[] #[]] 66)).alloc (.cells #[.slice A1 n1 c1, .slice A2 n2 c2] 27)) (w.heap.size + 1) 27 #[.slice A1 n1 c1, .slice A2 n2 c2] := Blk.new' _ _ (by simp)
  have hz : w.heap.size ≤ (((w.alloc (.cells #[.func (.func 25) #[] #[]] 66)).alloc (.cells #[.slice A1 n1 c1, .slice A2 n2 c2] 27))).heap.size := hX.size
  have hC := concat_h A1 A2 n1 n2 c1 c2 l1 l2 (w.heap.size + 1) _ ((w.alloc (.cells #[.func (.func 25) #[] #[]] 66)).alloc (.cells #[.slice A1 n1 c1, .slice A2 n2 c2] 27)) bR (h1.past hX hz) (h2.past hX hz) hl1 hl2 hn1 hn2
  have hlen : (l1 ++ l2).length ≤ 200000000 := by rw [List.length_append]; omega
  clear h1 h2 hl1 hl2
  go_enter Tryz.func24, Tryz.ntmps24
  go_wp2_with ((with_reducible refine hC.mono ?_); rintro e w5 ⟨v5, rfl, ho5, hb5⟩)
  have bK5 := bK.below hb5 bK.lt
  have hlK := bK.lt
  have W5 := hX.trans (hb5.mono hz)
  by_cases h0 : (l1 ++ l2).length = 0
  · have hnil := List.length_eq_zero_iff.1 h0
    have HN := Lib.hid hnil
    rw [hnil] at ho5
    clear hnil
    obtain ⟨A9, c9, hv, -⟩ := ho5.form
    rw [List.length_nil] at hv
    subst hv
    have hS := sortNone_h A9 c9 w.heap.size w5
    go_wp2_with ((with_reducible refine hS.mono ?_); rintro e w6 ⟨rfl, rfl⟩)
    go_ret
    rw [HN.out]
    exact ⟨_, [], rfl, ho5.mono_base hz, met_nil _, W5⟩
  · obtain ⟨g, c, rfl, hg, hr⟩ := OwnL.rowF (by omega) hh_len ho5 (⟨⟨#[]⟩, none, 0, 0⟩ : Hh) (by omega)
    have hS := sortStable_h g c (l1 ++ l2).length _ w.heap.size w5 hr (by omega) (bK5.cell 0) bK5.lt (by omega)
    go_wp2_with ((with_reducible refine hS.mono ?_); rintro e w6 ⟨rfl, f', hr6, hp6, hs6, ha6⟩)
    go_ret
    exact ⟨_, _, rfl, by simpa using hr6.own (by omega) hh_len (Nat.le_trans hz hg), met_of hp6 hs6, W5.trans (ha6.under (Nat.le_trans hz hg) W5.size)⟩

end Go.Proofs.YtipacjbegfingaaGreat
/- Plain law: two rows that rise, joined and sorted, are merged. -/
namespace Go.Proofs.YtipacjbegfingaaGreat
set_option linter.unusedVariables false
open Go.RowKit

/-- two rows as one, the lesser first -/
def mergeL {α : Type} (k : α → ByteArray) : List α → List α → List α
  | [], b => b
  | a :: l, [] => a :: l
  | a :: l, b :: m => if bl (k a) (k b) = true then a :: mergeL k l (b :: m) else b :: mergeL k (a :: l) m
termination_by a b => a.length + b.length
section
variable {α : Type} {k : α → ByteArray}
theorem merge_nil (l : List α) : mergeL k l [] = l := by cases l <;> simp [mergeL]
theorem nil_merge (l : List α) : mergeL k [] l = l := by simp [mergeL]
theorem merge_left {a b : α} (l m : List α) (h : bl (k a) (k b) = true) : mergeL k (a :: l) (b :: m) = a :: mergeL k l (b :: m) := by
  rw [mergeL, if_pos h]
theorem merge_right {a b : α} (l m : List α) (h : bl (k a) (k b) = false) : mergeL k (a :: l) (b :: m) = b :: mergeL k (a :: l) m := by
  rw [mergeL, if_neg (by rw [h]; exact Bool.false_ne_true)]
/-- the row's next is the first one's -/
theorem merge_step_l {l m : List α} {i j : Nat} {a : α} (ha : l[i]? = some a) (h : j = m.length ∨ ∃ b, m[j]? = some b ∧ bl (k a) (k b) = true) : mergeL k (l.drop i) (m.drop j) = a :: mergeL k (l.drop (i + 1)) (m.drop j) := by
  obtain ⟨hi, e⟩ := List.getElem?_eq_some_iff.1 ha
  rw [List.drop_eq_getElem_cons hi, e]
  rcases h with h | ⟨b, hb, hl⟩
  · rw [show m.drop j = [] from List.drop_of_length_le (by omega), merge_nil, merge_nil]
  · obtain ⟨hj, e2⟩ := List.getElem?_eq_some_iff.1 hb
    rw [List.drop_eq_getElem_cons hj, e2, merge_left _ _ hl]
theorem merge_step_r {l m : List α} {i j : Nat} {b : α} (hb : m[j]? = some b) (h : i = l.length ∨ ∃ a, l[i]? = some a ∧ bl (k a) (k b) = false) : mergeL k (l.drop i) (m.drop j) = b :: mergeL k (l.drop i) (m.drop (j + 1)) := by
  obtain ⟨hj, e⟩ := List.getElem?_eq_some_iff.1 hb
  rw [List.drop_eq_getElem_cons hj, e]
  rcases h with h | ⟨a, ha, hl⟩
  · rw [show l.drop i = [] from List.drop_of_length_le (by omega), nil_merge, nil_merge]
  · obtain ⟨hi, e2⟩ := List.getElem?_eq_some_iff.1 ha
    rw [List.drop_eq_getElem_cons hi, e2, merge_right _ _ hl]
theorem merge_len : ∀ (n : Nat) (l m : List α), l.length + m.length ≤ n → (mergeL k l m).length = l.length + m.length := by
  intro n
  induction n with
  | zero =>
    intro l m h
    obtain rfl := List.length_eq_zero_iff.1 (show l.length = 0 by omega)
    rw [nil_merge]; simp
  | succ n ih =>
    intro l m h
    cases l with
    | nil => rw [nil_merge]; simp
    | cons a l =>
      cases m with
      | nil => rw [merge_nil]; simp
      | cons b m =>
        simp only [List.length_cons] at h
        cases e : bl (k a) (k b)
        · rw [merge_right _ _ e, List.length_cons, ih (a :: l) m (by simp only [List.length_cons]; omega)]; simp only [List.length_cons]; omega
        · rw [merge_left _ _ e, List.length_cons, ih l (b :: m) (by simp only [List.length_cons]; omega)]; simp only [List.length_cons]; omega
theorem merge_mem : ∀ (n : Nat) (l m : List α), l.length + m.length ≤ n → ∀ x, x ∈ mergeL k l m ↔ x ∈ l ∨ x ∈ m := by
  intro n
  induction n with
  | zero =>
    intro l m h x
    obtain rfl := List.length_eq_zero_iff.1 (show l.length = 0 by omega)
    rw [nil_merge]; simp
  | succ n ih =>
    intro l m h x
    cases l with
    | nil => rw [nil_merge]; simp
    | cons a l =>
      cases m with
      | nil => rw [merge_nil]; simp
      | cons b m =>
        simp only [List.length_cons] at h
        cases e : bl (k a) (k b)
        · rw [merge_right _ _ e, List.mem_cons, ih (a :: l) m (by simp only [List.length_cons]; omega), List.mem_cons, List.mem_cons]
          constructor
          · rintro (h | (h | h) | h)
            · exact .inr (.inl h)
            · exact .inl (.inl h)
            · exact .inl (.inr h)
            · exact .inr (.inr h)
          · rintro ((h | h) | h | h)
            · exact .inr (.inl (.inl h))
            · exact .inr (.inl (.inr h))
            · exact .inl h
            · exact .inr (.inr h)
        · rw [merge_left _ _ e, List.mem_cons, ih l (b :: m) (by simp only [List.length_cons]; omega), List.mem_cons, List.mem_cons]
          constructor
          · rintro (h | h | h | h)
            · exact .inl (.inl h)
            · exact .inl (.inr h)
            · exact .inr (.inl h)
            · exact .inr (.inr h)
          · rintro ((h | h) | h | h)
            · exact .inl h
            · exact .inr (.inl h)
            · exact .inr (.inr (.inl h))
            · exact .inr (.inr (.inr h))
/-- all rise strictly -/
def RiseK (k : α → ByteArray) (l : List α) : Prop := l.Pairwise fun a b => bl (k a) (k b) = true
theorem bl_tot {a b : ByteArray} (hne : a ≠ b) (h : bl a b = false) : bl b a = true := by
  cases e : bl b a
  · have e2 := bl_beq h
    rw [e] at e2
    exact absurd (bytes_toList (beq_iff_eq.1 e2)) hne
  · rfl
theorem bl_self (a : ByteArray) : bl a a = false := by
  cases e : bl a a
  · rfl
  · have := bl_irrefl a a e; rw [beq_self_eq_true] at this; cases this
theorem bl_not {a b : ByteArray} (h : bl a b = true) : bl b a = false := by
  cases e : bl b a
  · rfl
  · have := bl_trans h e; rw [bl_self] at this; cases this
theorem merge_rise : ∀ (n : Nat) (l m : List α), l.length + m.length ≤ n → RiseK k l → RiseK k m → (∀ a ∈ l, ∀ b ∈ m, k a ≠ k b) → RiseK k (mergeL k l m) := by
  intro n
  induction n with
  | zero =>
    intro l m h _ hm _
    obtain rfl := List.length_eq_zero_iff.1 (show l.length = 0 by omega)
    rw [nil_merge]; exact hm
  | succ n ih =>
    intro l m h hl hm hd
    cases l with
    | nil => rw [nil_merge]; exact hm
    | cons a l =>
      cases m with
      | nil => rw [merge_nil]; exact hl
      | cons b m =>
        simp only [List.length_cons] at h
        obtain ⟨l1, l2⟩ := List.pairwise_cons.1 hl
        obtain ⟨m1, m2⟩ := List.pairwise_cons.1 hm
        have hne := hd a (List.mem_cons_self ..) b (List.mem_cons_self ..)
        cases e : bl (k a) (k b)
        · have hba := bl_tot hne e
          rw [merge_right _ _ e]
          refine List.Pairwise.cons (fun x hx => ?_) (ih (a :: l) m (by simp only [List.length_cons]; omega) hl m2 fun u hu v hv => hd u hu v (List.mem_cons_of_mem _ hv))
          rcases (merge_mem _ _ _ (Nat.le_refl _) x).1 hx with hx | hx
          · rcases List.mem_cons.1 hx with rfl | hx
            · exact hba
            · exact bl_trans hba (l1 x hx)
          · exact m1 x hx
        · rw [merge_left _ _ e]
          refine List.Pairwise.cons (fun x hx => ?_) (ih l (b :: m) (by simp only [List.length_cons]; omega) l2 hm fun u hu v hv => hd u (List.mem_cons_of_mem _ hu) v hv)
          rcases (merge_mem _ _ _ (Nat.le_refl _) x).1 hx with hx | hx
          · exact l1 x hx
          · rcases List.mem_cons.1 hx with rfl | hx
            · exact e
            · exact bl_trans e (m1 x hx)
theorem rise_ne {l : List α} (h : RiseK k l) {i j : Nat} {x y : α} (hij : i ≠ j) (hx : l[i]? = some x) (hy : l[j]? = some y) : k x ≠ k y := by
  obtain ⟨hi, ex⟩ := List.getElem?_eq_some_iff.1 hx
  obtain ⟨hj, ey⟩ := List.getElem?_eq_some_iff.1 hy
  have hp := List.pairwise_iff_getElem.1 h
  intro e
  rcases Nat.lt_or_gt_of_ne hij with hl | hl
  · have := hp i j hi hj hl
    rw [ex, ey, e, bl_self] at this; cases this
  · have := hp j i hj hi hl
    rw [ex, ey, e, bl_self] at this; cases this
/-- sorted, they are merged -/
theorem met_merge {l1 l2 l : List α} (h : Met2 k (l1 ++ l2) l) (h1 : RiseK k l1) (h2 : RiseK k l2) (hd : ∀ a ∈ l1, ∀ b ∈ l2, k a ≠ k b) : l = mergeL k l1 l2 := by
  obtain ⟨hlen, ⟨p, q, hqp, hpq, hp, hq, hget⟩, hs⟩ := h
  have hne : ∀ (i j : Nat) (x y : α), i ≠ j → (l1 ++ l2)[i]? = some x → (l1 ++ l2)[j]? = some y → k x ≠ k y := by
    intro i j x y hij hx hy
    rw [List.getElem?_append] at hx hy
    split at hx
    · split at hy
      · exact rise_ne h1 hij hx hy
      · exact hd x (List.mem_of_getElem? hx) y (List.mem_of_getElem? hy)
    · split at hy
      · exact fun e => hd y (List.mem_of_getElem? hy) x (List.mem_of_getElem? hx) e.symm
      · exact rise_ne h2 (by omega) hx hy
  have hr : RiseK k l := by
    refine List.pairwise_iff_getElem.2 fun i j hi hj hij => ?_
    have ei := List.getElem?_eq_getElem hi
    have ej := List.getElem?_eq_getElem hj
    have hn := hs i j _ _ (Nat.le_of_lt hij) ei ej
    rw [hget i (by omega)] at ei
    rw [hget j (by omega)] at ej
    refine bl_tot (fun e => hne (p j) (p i) _ _ (fun e2 => ?_) ej ei e) hn
    have := congrArg q e2
    rw [hqp, hqp] at this; omega
  refine rise_eq (lt := fun a b => bl (k a) (k b)) hr (merge_rise _ l1 l2 (Nat.le_refl _) h1 h2 hd) (fun a => bl_self _) (fun a b => bl_not) fun x => ?_
  rw [merge_mem _ _ _ (Nat.le_refl _), ← List.mem_append]
  constructor
  · intro hx
    obtain ⟨i, hi⟩ := List.mem_iff_getElem?.1 hx
    have hil := (List.getElem?_eq_some_iff.1 hi).1
    rw [hget i (by omega)] at hi
    exact List.mem_of_getElem? hi
  · intro hx
    obtain ⟨i, hi⟩ := List.mem_iff_getElem?.1 hx
    have hil := (List.getElem?_eq_some_iff.1 hi).1
    have := hget (q i) (hq i hil)
    rw [hpq, hi] at this
    exact List.mem_of_getElem? this
end
end Go.Proofs.YtipacjbegfingaaGreat
/- hand.join: one pending transaction of its halves. -/
namespace Go.Proofs.YtipacjbegfingaaGreat
set_option linter.unusedVariables false
open Go.RowKit
attribute [local go_sem] run_store_float

/-- reads and writes that can be joined -/
def Apart2 (p q : Pn) : Prop := RiseK id p.r ∧ RiseK id q.r ∧ RiseK Wt.key p.w ∧ RiseK Wt.key q.w ∧ (∀ a ∈ p.r, ∀ b ∈ q.r, a ≠ b) ∧ ∀ a ∈ p.w, ∀ b ∈ q.w, a.key ≠ b.key
set_option maxRecDepth 100000 in
set_option maxHeartbeats 4000000 in
theorem join_any (p q : Pn) (A1 A2 A3 A4 : Option Addr) (n1 n2 n3 n4 c1 c2 c3 c4 : Nat) (w : World) (h1 : Sl KyRel 1 w w.heap.size A1 n1 p.r) (h2 : Sl WtRel 4 w w.heap.size A2 n2 p.w) (h3 : Sl KyRel 1 w w.heap.size A3 n3 q.r) (h4 : Sl WtRel 4 w w.heap.size A4 n4 q.w)
    (hn1 : n1 ≤ 10000000) (hn2 : n2 ≤ 10000000) (hn3 : n3 ≤ 10000000) (hn4 : n4 ≤ 10000000) (hd : Apart2 p q) :
    Calls Tryz.prog 26 #[p.val (.slice A1 n1 c1) (.slice A2 n2 c2), q.val (.slice A3 n3 c3) (.slice A4 n4 c4)] w fun e w' => ∃ v1 v2 b2, e = .returned (p.val v1 v2) ∧ OwnL keyCells 9 1 w.heap.size w' v1 (mergeL id p.r q.r) ∧ OwnL Wt.cells 86 4 b2 w' v2 (mergeL Wt.key p.w q.w) ∧ w.heap.size ≤ b2 ∧ Dis v1 v2 ∧ Below w.heap.size w w' := by
  obtain ⟨d1, d2, d3, d4, d5, d6⟩ := hd
  have hX : Below w.heap.size w (((w.alloc (.cells (p.arr (.slice A1 n1 c1) (.slice A2 n2 c2)) 45)).alloc (.cells (q.arr (.slice A3 n3 c3) (.slice A4 n4 c4)) 45)).alloc (.cells zeroPn 45)) := by go_grown
  have b0 : Blk (((w.alloc (.cells (p.arr (.slice A1 n1 c1) (.slice A2 n2 c2)) 45)).alloc (.cells (q.arr (.slice A3 n3 c3) (.slice A4 n4 c4)) 45)).alloc (.cells zeroPn 45)) w.heap.size 45 (p.arr (.slice A1 n1 c1) (.slice A2 n2 c2)) := ((Blk.new _ _ _).alloc _).alloc _
  have b1 : Blk (((w.alloc (.cells (p.arr (.slice A1 n1 c1) (.slice A2 n2 c2)) 45)).alloc (.cells (q.arr (.slice A3 n3 c3) (.slice A4 n4 c4)) 45)).alloc (.cells zeroPn 45)) (w.heap.size + 1) 45 (q.arr (.slice A3 n3 c3) (.slice A4 n4 c4)) := (Blk.new' _ _ (by simp)).alloc _
  have b2 : Blk (((w.alloc (.cells (p.arr (.slice A1 n1 c1) (.slice A2 n2 c2)) 45)).alloc (.cells (q.arr (.slice A3 n3 c3) (.slice A4 n4 c4)) 45)).alloc (.cells zeroPn 45)) (w.heap.size + 1 + 1) 45 zeroPn := Blk.new' _ _ (by simp)
  go_enter Tryz.func26, Tryz.ntmps26
  go_upto_region 1 with fail
  generalize (((w.alloc (.cells (p.arr (.slice A1 n1 c1) (.slice A2 n2 c2)) 45)).alloc (.cells (q.arr (.slice A3 n3 c3) (.slice A4 n4 c4)) 45)).alloc (.cells zeroPn 45)) = W0 at *
  have hz0 := hX.size
  have r1 := ((h1.below KyRel.kept hX).more KyRel.kept hX.size).reads (by omega) ky_len
  have r3 := ((h3.below KyRel.kept hX).more KyRel.kept hX.size).reads (by omega) ky_len
  have x6 : W0.cell? ⟨w.heap.size, 6, none⟩ = some (.slice A1 n1 c1) := b0.cell 6
  have y6 : W0.cell? ⟨w.heap.size + 1, 6, none⟩ = some (.slice A3 n3 c3) := b1.cell 6
  have hM := meet_s A1 A3 n1 n3 c1 c3 p.r q.r W0 r1 r3 h1.1 h3.1 (by omega) (by omega)
  have l0 := b0.lt
  have l1 := b1.lt
  have l2 := b2.lt
  go_wp2_with fail
  refine hM.mono ?_
  rintro e w5 ⟨v1, m1, rfl, o1, hm1, hb5⟩
  obtain rfl := met_merge hm1 d1 d2 d5
  obtain ⟨B1, q1, rfl, -⟩ := o1.form
  have b05 := b0.below hb5 l0
  have b15 := b1.below hb5 l1
  have b25 := b2.below hb5 l2
  have x6' : w5.cell? ⟨w.heap.size, 6, none⟩ = some (.slice A1 n1 c1) := b05.cell 6
  have f6 := b05.frozen 6
  have W5 := hX.trans (hb5.mono hz0)
  have l05 := b05.lt
  have l0' : w.heap.size < W0.heap.size := l0
  have l2' : w.heap.size + 1 + 1 < W0.heap.size := l2
  clear x6 y6 hM hm1 r1 r3 b0 b1 b2 l0 l1 l2
  generalize (mergeL id p.r q.r).length = k1 at *
  go_upto_region 2 with fail
  have e0 : Blk (w5.setCell ⟨w.heap.size, 6, none⟩ (.slice B1 k1 q1)) w.heap.size 45 (p.arr (.slice B1 k1 q1) (.slice A2 n2 c2)) := b05.set_ 6 _
  have e1 := b15.far (p := ⟨w.heap.size, 6, none⟩) (by simp) (.slice B1 k1 q1)
  have e2 := b25.far (p := ⟨w.heap.size, 6, none⟩) (by simp; omega) (.slice B1 k1 q1)
  have W6 : Below w.heap.size w (w5.setCell ⟨w.heap.size, 6, none⟩ (.slice B1 k1 q1)) := W5.setCell (p := ⟨w.heap.size, 6, none⟩) (Nat.le_refl _) _
  have o2 := o1.set_far (p := ⟨w.heap.size, 6, none⟩) l0' (.slice B1 k1 q1)
  clear b05 b15 b25 x6' f6 l05 W5 o1
  generalize w5.setCell ⟨w.heap.size, 6, none⟩ (.slice B1 k1 q1) = W1 at *
  have r2 := ((h2.below WtRel.kept W6).more WtRel.kept W6.size).reads (by omega) wt_len
  have r4 := ((h4.below WtRel.kept W6).more WtRel.kept W6.size).reads (by omega) wt_len
  have x7 : W1.cell? ⟨w.heap.size, 7, none⟩ = some (.slice A2 n2 c2) := e0.cell 7
  have y7 : W1.cell? ⟨w.heap.size + 1, 7, none⟩ = some (.slice A4 n4 c4) := e1.cell 7
  have hM := meet_w A2 A4 n2 n4 c2 c4 p.w q.w W1 r2 r4 h2.1 h4.1 (by omega) (by omega)
  have l0 := e0.lt
  have l1 := e1.lt
  have l2 := e2.lt
  go_wp2_with fail
  refine hM.mono ?_
  rintro e w6 ⟨v2, m2, rfl, o3, hm2, hb6⟩
  obtain rfl := met_merge hm2 d3 d4 d6
  obtain ⟨B2, q2, rfl, -⟩ := o3.form
  have b06 := e0.below hb6 l0
  have b26 := e2.below hb6 l2
  have x7' : w6.cell? ⟨w.heap.size, 7, none⟩ = some (.slice A2 n2 c2) := b06.cell 7
  have f7 := b06.frozen 7
  have W7 := W6.trans (hb6.mono W6.size)
  have o4 := o2.below hb6
  have hbs := W6.size
  have hdis : Dis (.slice B1 k1 q1) (.slice B2 (mergeL Wt.key p.w q.w).length q2) := fun k h5 h6 => by
    have := (o2.lt k h5).2
    have := (o3.lt k h6).1
    omega
  clear x7 y7 hM hm2 r2 r4 e0 e1 e2 hb6 o2
  generalize (mergeL Wt.key p.w q.w).length = k2 at *
  have l06 := b06.lt
  go_upto_region 3 with fail
  have e0 : Blk (w6.setCell ⟨w.heap.size, 7, none⟩ (.slice B2 k2 q2)) w.heap.size 45 (p.arr (.slice B1 k1 q1) (.slice B2 k2 q2)) := b06.set_ 7 _
  have e2 := b26.far (p := ⟨w.heap.size, 7, none⟩) (by simp; omega) (.slice B2 k2 q2)
  have W8 : Below w.heap.size w (w6.setCell ⟨w.heap.size, 7, none⟩ (.slice B2 k2 q2)) := W7.setCell (p := ⟨w.heap.size, 7, none⟩) (Nat.le_refl _) _
  have o5 := o4.set_far (p := ⟨w.heap.size, 7, none⟩) l0' (.slice B2 k2 q2)
  have o6 := o3.set_far (p := ⟨w.heap.size, 7, none⟩) (by show w.heap.size < _; omega) (.slice B2 k2 q2)
  clear b06 b26 x7' f7 l06 W7 o4 o3 hn1 hn2 hn3 hn4
  generalize w6.setCell ⟨w.heap.size, 7, none⟩ (.slice B2 k2 q2) = W2 at *
  have o7 := o5.setRow_far (g := w.heap.size + 1 + 1) (by omega) (p.arr (.slice B1 k1 q1) (.slice B2 k2 q2))
  have o8 := o6.setRow_far (g := w.heap.size + 1 + 1) (by omega) (p.arr (.slice B1 k1 q1) (.slice B2 k2 q2))
  have e3 := e2.setRow (p.arr (.slice B1 k1 q1) (.slice B2 k2 q2))
  have W9 := below_setRow W8 (g := w.heap.size + 1 + 1) (by omega) (p.arr (.slice B1 k1 q1) (.slice B2 k2 q2))
  go_wp2_with (first
    | (guard_target =~ wpList _ _ _ _ _ _; refine wpList_load_row rfl 45 _ rfl w.heap.size (by kernel_rfl) _ _ (0, 0) _ e0 rfl rfl (by kernel_rfl) ?_)
    | (guard_target =~ wpList _ _ _ _ _ _; refine wpList_store_row rfl 45 _ _ rfl (w.heap.size + 1 + 1) (p.arr (.slice B1 k1 q1) (.slice B2 k2 q2)) (by kernel_rfl) (by kernel_rfl) _ _ e2 (by kernel_rfl) (by kernel_rfl) (by kernel_rfl) ?_))
  (try simp only [Exit.inBlock, Exit.then])
  exact post_cell rfl rfl e3 Tryz.underlying45 rfl (by kernel_rfl) ⟨_, _, _, rfl, o7.mono_base (by omega), o8, by omega, hdis, W9⟩
end Go.Proofs.YtipacjbegfingaaGreat
