/- The walk of Check. -/
import Derived.Test.YtbclfcfcpmlaaaaCv
import Derived.Test.YtbclfcfcpmlaaaaPw
namespace Go.Proofs.Ytbclfcfcpmlaaaa
open Go.RowKit Fl
attribute [local go_sem] run_store_float
attribute [local go_sem] Rg.val

theorem ck_scan {l : List Rg} {e : Int} (h0 : ¬ l.length = 0) (h12 : ¬ 12 < l.length) (h : scanC [] l = some e) : ck l = e := by
  unfold ck; rw [if_neg h0, if_neg h12, h]
theorem ck_yes {l : List Rg} (h0 : ¬ l.length = 0) (h12 : ¬ 12 < l.length) (h : scanC [] l = none) (hc : chn l l.length 0 = some 4607182418800017408) : ck l = 0 := by
  unfold ck; rw [if_neg h0, if_neg h12, h]; exact if_pos hc
theorem ck_no {l : List Rg} (h0 : ¬ l.length = 0) (h12 : ¬ 12 < l.length) (h : scanC [] l = none) (hc : ¬ chn l l.length 0 = some 4607182418800017408) : ck l = 14 := by
  unfold ck; rw [if_neg h0, if_neg h12, h]; exact if_neg hc
theorem drop_next {α : Type} {l : List α} {k : Nat} {r : α} (h : l[k]? = some r) : l.drop k = r :: l.drop (k + 1) := by
  have hk := (List.getElem?_eq_some_iff.1 h).1
  rw [List.drop_eq_getElem_cons hk, (List.getElem?_eq_some_iff.1 h).2]
theorem scan_bad {l : List Rg} {k : Nat} {r : Rg} (h : l[k]? = some r) (hs : scanC [] l = scanC (l.take k) (l.drop k)) (hm : mayR r = false) : scanC [] l = some 1 := by
  rw [hs, drop_next h, scanC, hm]; rfl
theorem scan_twice {l : List Rg} {k j : Nat} {r o : Rg} (h : l[k]? = some r) (hs : scanC [] l = scanC (l.take k) (l.drop k)) (hm : mayR r = true) (hj : j < k) (ho : l[j]? = some o) (e : o.id = r.id) : scanC [] l = some 9 := by
  have hjl := (List.getElem?_eq_some_iff.1 ho).1
  have hany : (l.take k).any (fun o => o.id == r.id) = true := by
    refine List.any_eq_true.2 ⟨o, List.mem_take_iff_getElem.2 ⟨j, by omega, (List.getElem?_eq_some_iff.1 ho).2⟩, by simpa using e⟩
  rw [hs, drop_next h, scanC, hm, hany]; rfl
theorem scan_next {l : List Rg} {k : Nat} {r : Rg} (h : l[k]? = some r) (hs : scanC [] l = scanC (l.take k) (l.drop k)) (hm : mayR r = true) (hn : ∀ o ∈ l.take k, ¬ o.id = r.id) : scanC [] l = scanC (l.take (k + 1)) (l.drop (k + 1)) := by
  have hany : ¬ (l.take k).any (fun o => o.id == r.id) = true := by
    intro g
    obtain ⟨o, ho, e⟩ := List.any_eq_true.1 g
    exact hn o ho (by simpa using e)
  rw [hs, drop_next h, scanC, if_pos hm, if_neg hany, take_next h]
theorem ids_next {l : List Rg} {j : Nat} {o : Rg} {i : Int} (h : l[j]? = some o) (hn : ∀ o ∈ l.take j, ¬ o.id = i) (he : ¬ o.id = i) : ∀ o ∈ l.take (j + 1), ¬ o.id = i := by
  rw [take_next h]
  intro x hx
  rcases List.mem_append.1 hx with a | a
  · exact hn x a
  · simp at a; subst a; exact he
theorem may_next {l : List Rg} {k : Nat} {r : Rg} (h : l[k]? = some r) (ha : AllMay (l.take k)) (hm : mayR r = true) : AllMay (l.take (k + 1)) := by
  rw [take_next h]
  intro x hx
  rcases List.mem_append.1 hx with a | a
  · exact ha x a
  · simp at a; subst a; exact hm
theorem scan_done {l : List Rg} {k : Nat} (hk : l.length ≤ k) (hs : scanC [] l = scanC (l.take k) (l.drop k)) : scanC [] l = none := by
  rw [hs, List.drop_eq_nil_of_le hk]; rfl
theorem may_done {l : List Rg} {k : Nat} (hk : l.length ≤ k) (ha : AllMay (l.take k)) : AllMay l := by
  rw [List.take_of_length_le hk] at ha; exact ha
theorem fl_next {l : List Rg} {j x : Nat} {o : Rg} (h : l[j]? = some o) : flC (l.take (j + 1)) x = flC (l.take j) x ++ (if o.lo = x then [o] else []) := by
  unfold flC
  rw [take_next h, List.filter_append]
  congr 1
  by_cases e : o.lo = x <;> simp [e]
def lastHi (l : List Rg) : Nat := match l.getLast? with | some r => r.hi | none => 0
theorem lastHi_snoc (l : List Rg) (r : Rg) : lastHi (l ++ [r]) = r.hi := by unfold lastHi; simp
theorem step_of_one {l : List Rg} {x : Nat} (h : (flC l x).length = 1) : stepC l x = some (lastHi (flC l x)) := by
  unfold stepC
  match hf : flC l x with
  | [r] => rfl
  | [] => rw [hf] at h; cases h
  | _ :: _ :: _ => rw [hf] at h; simp at h
theorem step_of_not {l : List Rg} {x : Nat} (h : ¬ (flC l x).length = 1) : stepC l x = none := by
  unfold stepC
  match hf : flC l x with
  | [r] => rw [hf] at h; exact absurd rfl h
  | [] => rfl
  | _ :: _ :: _ => rfl
theorem fl_len (l : List Rg) (x : Nat) : (flC l x).length ≤ l.length := List.length_filter_le _ _

set_option maxRecDepth 100000 in
set_option maxHeartbeats 8000000 in
theorem check_any (A : Option Addr) (n c : Nat) (l : List Rg) (w : World) (h : Sl RgRel 4 w w.heap.size A n l) (hn : n ≤ c) (hc : c ≤ maxLen) :
    Calls Try.prog 21 #[.slice A n c] w fun e w' => e = .returned (.int .i64 (ck l)) ∧ Below w.heap.size w w' := by
  unfold maxLen at hc
  have _hc' := hc
  have hlen := h.1
  by_cases h0 : n = 0
  · have e : ck l = 8 := by unfold ck; rw [if_pos (by omega)]
    rw [e]
    subst h0
    clear e hlen
    go_enter Try.func21, Try.ntmps21
    go_wp2
    go_ret
    exact ⟨rfl, Below.refl _ _⟩
  by_cases h12 : 12 < n
  · have e : ck l = 3 := by unfold ck; rw [if_neg (by omega), if_pos (by omega)]
    rw [e]
    have g1 : ((n : Int) == 0) = false := by simpa using h0
    clear e hlen h0
    go_enter Try.func21, Try.ntmps21
    go_wp2
    go_ret
    exact ⟨rfl, Below.refl _ _⟩
  have g0 : Hid (¬ l.length = 0) := Lib.hid (by omega)
  have g12 : Hid (¬ 12 < l.length) := Lib.hid (by omega)
  have HL := Lib.hid hlen
  have g1 : ((n : Int) == 0) = false := by simpa using h0
  have g2 : n ≤ 12 := by omega
  have g3 : decide ((12 : Int) < (n : Int)) = false := by simp; omega
  clear hlen h0 h12
  go_enter Try.func21, Try.ntmps21
  go_wp2
  go_loopw [23] (fun i wr => ∃ k : Nat, k ≤ n ∧ i = .int .i64 k ∧ Below w.heap.size w wr ∧ Hid (scanC [] l = scanC (l.take k) (l.drop k)) ∧ Hid (AllMay (l.take k))) (fun i _ => n - (intOf i).toNat)
  case atStart => exact ⟨0, by omega, rfl, Below.refl _ _, rfl, fun r hr => by simp at hr⟩
  case round =>
    obtain ⟨k, hk, rfl, hb, hs, hm⟩ := hrel
    by_cases hlt : k < n
    · obtain ⟨ad, r, rfl, hl, hbk, hok, c0, c1, c2, c3⟩ := (h.below RgRel.kept hb).rg hlt
      rcases Bool.eq_false_or_eq_true (mayR r) with hi | hi
      · have HI := Lib.hid hi
        have HLK := Lib.hid hl
        clear hi hl
        go_wp2_with ((with_reducible refine (may_any r _ hok).mono ?_); rw [HI.out]; rintro e w1 ⟨rfl, rfl⟩)
        have hzz := hb.size
        have hz2 : w.heap.size < wr.heap.size + 1 := by omega
        go_loopw [35] (fun i wx => ∃ j : Nat, j ≤ k ∧ i = .int .i64 j ∧ Below w.heap.size w wx ∧ Blk wx wr.heap.size 39 #[.int .i64 r.id, .int .i64 r.ep, .float .f64 r.lo, .float .f64 r.hi] ∧ Hid (∀ o ∈ l.take j, ¬ o.id = r.id)) (fun i _ => k - (intOf i).toNat)
        case atStart => exact ⟨0, by omega, rfl, by go_grown, (Blk.new wr 39 #[.int .i64 r.id, .int .i64 r.ep, .float .f64 r.lo, .float .f64 r.hi]).alloc _, fun o ho => by simp at ho⟩
        case round =>
          obtain ⟨j, hj, rfl, hbx, hblk, hid⟩ := hrel
          obtain ⟨z0, z1, z2, z3, z4, z5, z6, z7, z8⟩ := hblk.four
          have HB := Lib.hid hblk
          have hzx := hbx.size
          clear hblk c0 c1 c2 c3 hbk
          by_cases hlj : j < k
          · obtain ⟨ad', o, hA, ho, hbk, hoko, c0, c1, c2, c3⟩ := (h.below RgRel.kept hbx).rg (show j < n by omega)
            obtain rfl : ad = ad' := Option.some.inj hA
            clear hA
            by_cases he : o.id = r.id
            · have HF := Lib.hid (ck_scan g0.out g12.out (scan_twice HLK.out hs.out HI.out hlj ho he))
              have he' : ((o.id : Int) == r.id) = true := by simp [he]
              clear he ho hid
              go_wp2
              go_ret
              refine ⟨ret_int HF.out.symm, ?_⟩
              go_grown
            · have HN := Lib.hid (ids_next ho hid.out he)
              have he' : ((o.id : Int) == r.id) = false := by simp [he]
              clear he ho hid
              go_wp2
              go_roundw
              case rel => exact ⟨j + 1, by omega, by go_num, by go_grown, HB.out.alloc (.cells #[.int .i64 o.id, .int .i64 o.ep, .float .f64 o.lo, .float .f64 o.hi] 39), HN⟩
              case measure => simp [intOf]; omega
          · have ej : j = k := by omega
            have HN := Lib.hid (scan_next HLK.out hs.out HI.out (by rw [← ej]; exact hid.out))
            have HM := Lib.hid (may_next HLK.out hm.out HI.out)
            clear ej hid
            go_wp2
            go_roundw
            case rel => exact ⟨k + 1, by omega, by go_num, by go_grown, HN, HM⟩
            case measure => simp [intOf]; omega
      · have HF := Lib.hid (ck_scan g0.out g12.out (scan_bad hl hs.out hi))
        have HI := Lib.hid hi
        clear hi hl hs hm
        go_wp2_with ((with_reducible refine (may_any r _ hok).mono ?_); rw [HI.out]; rintro e w1 ⟨rfl, rfl⟩)
        go_ret
        refine ⟨ret_int HF.out.symm, ?_⟩
        have hzz := hb.size
        go_grown
    · have HS := Lib.hid (scan_done (by rw [HL.out]; omega) hs.out)
      have HM := Lib.hid (may_done (by rw [HL.out]; omega) hm.out)
      clear hs hm
      go_wp2
      go_loopw [7, 8] (fun x u wr => ∃ (j y : Nat), j ≤ n ∧ x = .float .f64 y ∧ u = .int .i64 j ∧ Below w.heap.size w wr ∧ Hid (chn l j 0 = some y ∧ j + cntC l y ≤ n ∧ y ≤ 4607182418800017408)) (fun _ u _ => n + 1 - (intOf u).toNat)
      case atStart => exact ⟨0, 0, by omega, rfl, rfl, hb, rfl, (by have := cnt_le l 0; have := HL.out; omega), by omega⟩
      case round =>
        clear hb
        obtain ⟨j, y, hj, rfl, rfl, hb, hch⟩ := hrel
        by_cases hy : y < 4607182418800017408
        · have hlt : (FloatKind.f64.format.order y 4607182418800017408 == some Ordering.lt) = true := by
            have := flt_pt (a := y) (b := 4607182418800017408) (by omega) (by omega)
            rw [decide_eq_true hy] at this; exact this
          have HY := Lib.hid hy
          clear hy
          go_wp2
          go_loopw [9, 10, 50] (fun nx mn i wx => ∃ k : Nat, k ≤ n ∧ i = .int .i64 k ∧ Below w.heap.size w wx ∧ nx = .float .f64 (lastHi (flC (l.take k) y)) ∧ mn = .int .i64 (flC (l.take k) y).length) (fun _ _ i _ => n - (intOf i).toNat)
          case atStart => exact ⟨0, by omega, rfl, hb, rfl, rfl⟩
          case round =>
            clear hb
            obtain ⟨q, hq, rfl, hb, rfl, rfl⟩ := hrel
            by_cases hlq : q < n
            · obtain ⟨ad, o, rfl, ho, hbk, hoko, c0, c1, c2, c3⟩ := (h.below RgRel.kept hb).rg hlq
              have hle : (flC (l.take q) y).length ≤ q := Nat.le_trans (fl_len _ _) (List.length_take_le _ _)
              have hzz := hb.size
              have hoh := hoko
              obtain ⟨hp1, hp2, _, _, _⟩ := mayR_lo (HM.out o (List.mem_of_getElem? ho))
              have hyo := hch.out.2.2
              have hfe := feq_pt (a := o.lo) (b := y) (by omega) (by omega)
              have HN := Lib.hid (fl_next (x := y) ho)
              clear hoh hp1 hp2 hyo ho hoko
              by_cases he : o.lo = y
              · rw [decide_eq_true he] at hfe
                have hfe' : (FloatKind.f64.format.order o.lo y == some Ordering.eq) = true := hfe
                have HE := Lib.hid he
                clear he hfe
                go_wp2
                go_roundw
                case rel => exact ⟨q + 1, by omega, by go_num, by go_grown, by rw [HN.out, if_pos HE.out, lastHi_snoc], by rw [HN.out, if_pos HE.out, List.length_append]; go_num⟩
                case measure => simp [intOf]; omega
              · rw [decide_eq_false he] at hfe
                have hfe' : (FloatKind.f64.format.order o.lo y == some Ordering.eq) = false := hfe
                have HE := Lib.hid he
                clear he hfe
                go_wp2
                go_roundw
                case rel => exact ⟨q + 1, by omega, by go_num, by go_grown, by rw [HN.out, if_neg HE.out, List.append_nil], by rw [HN.out, if_neg HE.out, List.append_nil]⟩
                case measure => simp [intOf]; omega
            · have hall : flC (l.take q) y = flC l y := by rw [List.take_of_length_le (by rw [HL.out]; omega)]
              rw [hall]
              clear hall
              generalize hmn : (flC l y).length = mn
              generalize hnx : lastHi (flC l y) = nx
              have HMN := Lib.hid hmn; have HNX := Lib.hid hnx
              clear hmn hnx
              by_cases h1 : mn = 1
              · have hs : stepC l y = some nx := by rw [step_of_one (by rw [HMN.out]; exact h1), HNX.out]
                have HC : Hid (chn l (j + 1) 0 = some nx ∧ j + 1 + cntC l nx ≤ n ∧ nx ≤ 4607182418800017408) := by
                  obtain ⟨a1, a2, a3⟩ := hch.out
                  refine Lib.hid ⟨by rw [chn_snoc, a1]; exact hs, ?_, (step_up HM.out hs).2⟩
                  have := cnt_step HM.out hs
                  omega
                have hjn : j + 1 ≤ n := by have := HC.out.2.1; omega
                have h1' : ((mn : Int) != 1) = false := by simp [h1]
                clear h1 hs
                go_wp2
                go_roundw
                case rel => exact ⟨j + 1, nx, hjn, rfl, by go_num, hb, HC⟩
                case measure => simp [intOf]; omega
              · have hs : stepC l y = none := step_of_not (by rw [HMN.out]; exact h1)
                have HF := Lib.hid (ck_no g0.out g12.out HS.out (fin_stuck hch.out.1 HY.out hs (by rw [HL.out]; exact hj)))
                have h1' : ((mn : Int) != 1) = true := by simp; omega
                clear h1 hs
                go_wp2
                go_ret
                exact ⟨ret_int HF.out.symm, hb⟩
        · have hlt : (FloatKind.f64.format.order y 4607182418800017408 == some Ordering.lt) = false := by
            have hyo := hch.out.2.2
            have := flt_pt (a := y) (b := 4607182418800017408) (by omega) (by omega)
            rw [decide_eq_false hy] at this; exact this
          obtain ⟨f1, f2⟩ := fin_top HM.out hch.out.1 hy (by rw [HL.out]; exact hj)
          rw [HL.out] at f1 f2
          by_cases hjn : j = n
          · have HF := Lib.hid (ck_yes g0.out g12.out HS.out (by rw [HL.out]; exact f1 hjn))
            have h1' : ((j : Int) != n) = false := by simp [hjn]
            clear f1 f2 hjn hy
            go_wp2
            go_ret
            exact ⟨ret_int HF.out.symm, hb⟩
          · have HF := Lib.hid (ck_no g0.out g12.out HS.out (by rw [HL.out]; exact f2 hjn))
            have h1' : ((j : Int) != n) = true := by simp; omega
            clear f1 f2 hjn hy
            go_wp2
            go_ret
            exact ⟨ret_int HF.out.symm, hb⟩
end Go.Proofs.Ytbclfcfcpmlaaaa
