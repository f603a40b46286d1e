/- The walk of the document's Check. -/
import Derived.Test.YtbclfcfcpmlaaaaPx
namespace Go.Proofs.Ytbclfcfcpmlaaaa
open Go.RowKit Fl
attribute [local go_sem] run_store_float
attribute [local go_sem] Rg.val

set_option maxRecDepth 100000 in
set_option maxHeartbeats 8000000 in
theorem rcheck_any (A : Option Addr) (n c : Nat) (l : List Rg) (w : World) (h : Sl RgRel 4 w w.heap.size A n l) (hn : n ≤ c) (hc : c ≤ maxLen) :
    Calls Try.prog 24 #[.slice A n c] w fun e w' => e = .returned (.int .i64 (ck l)) ∧ Below w.heap.size w w' := by
  unfold maxLen at hc
  have _hc' := hc
  have hlen := h.1
  by_cases h0 : n = 0
  · have e : ck l = 8 := by unfold ck; rw [if_pos (by omega)]
    rw [e]
    subst h0
    clear e hlen
    go_enter Try.func24, Try.ntmps24
    go_wp2
    go_ret
    exact ⟨rfl, Below.refl _ _⟩
  by_cases h12 : 12 < n
  · have e : ck l = 3 := by unfold ck; rw [if_neg (by omega), if_pos (by omega)]
    rw [e]
    have g1 : ((n : Int) == 0) = false := by simpa using h0
    clear e hlen h0
    go_enter Try.func24, Try.ntmps24
    go_wp2
    go_ret
    exact ⟨rfl, Below.refl _ _⟩
  have g0 : Hid (¬ l.length = 0) := Lib.hid (by omega)
  have g12 : Hid (¬ 12 < l.length) := Lib.hid (by omega)
  have HL := Lib.hid hlen
  have g1 : ((n : Int) == 0) = false := by simpa using h0
  have g2 : n ≤ 12 := by omega
  have g3 : decide ((12 : Int) < (n : Int)) = false := by simp; omega
  clear hlen h0 h12
  go_enter Try.func24, Try.ntmps24
  go_wp2
  go_loopw [3] (fun i wr => ∃ k : Nat, k ≤ n ∧ i = .int .i64 k ∧ Below w.heap.size w wr ∧ Hid (scanC [] l = scanC (l.take k) (l.drop k)) ∧ Hid (AllMay (l.take k))) (fun i _ => n - (intOf i).toNat)
  case atStart => exact ⟨0, by omega, rfl, Below.refl _ _, rfl, fun r hr => by simp at hr⟩
  case round =>
    obtain ⟨k, hk, rfl, hb, hs, hm⟩ := hrel
    by_cases hlt : k < n
    · obtain ⟨ad, r, rfl, hl, hbk, hok, c0, c1, c2, c3⟩ := (h.below RgRel.kept hb).rg hlt
      rcases Bool.eq_false_or_eq_true (mayR r) with hi | hi
      · have HI := Lib.hid hi
        have HLK := Lib.hid hl
        clear hi hl
        go_wp2_with ((with_reducible refine (rmay_any r _ hok).mono ?_); rw [HI.out]; rintro e w1 ⟨rfl, rfl⟩)
        have hzz := hb.size
        have hz2 : w.heap.size < wr.heap.size + 1 := by omega
        go_loopw [4] (fun i wx => ∃ j : Nat, j ≤ k ∧ i = .int .i64 j ∧ Below w.heap.size w wx ∧ Hid (∀ o ∈ l.take j, ¬ o.id = r.id)) (fun i _ => k - (intOf i).toNat)
        case atStart => exact ⟨0, by omega, rfl, by go_grown, fun o ho => by simp at ho⟩
        case round =>
          clear c0 c1 c2 c3 hbk
          obtain ⟨j, hj, rfl, hbx, hid⟩ := hrel
          have hzx := hbx.size
          by_cases hlj : j < k
          · obtain ⟨ad', o, hA, ho, hbk, hoko, c0, _, _, _⟩ := (h.below RgRel.kept hbx).rg (show j < n by omega)
            obtain rfl : ad = ad' := Option.some.inj hA
            obtain ⟨ad', r', hA, hr', hbk', _, d0, _, _, _⟩ := (h.below RgRel.kept hbx).rg hlt
            obtain rfl : ad = ad' := Option.some.inj hA
            obtain rfl : r = r' := Option.some.inj (HLK.out.symm.trans hr')
            clear hA hr'
            by_cases he : o.id = r.id
            · have HF := Lib.hid (ck_scan g0.out g12.out (scan_twice HLK.out hs.out HI.out hlj ho he))
              have he' : ((o.id : Int) == r.id) = true := by simp [he]
              have HE := Lib.hid he
              clear he ho hid
              go_wp2
              go_quiet (fail)
              go_wp2
              go_ret
              exact ⟨ret_int HF.out.symm, below_drewN hbx _⟩
            · have HN := Lib.hid (ids_next ho hid.out he)
              have he' : ((o.id : Int) == r.id) = false := by simp [he]
              clear he ho hid
              go_wp2
              go_quiet (fail)
              go_wp2
              go_roundw
              case rel => exact ⟨j + 1, by omega, by go_num, below_drewN hbx _, HN⟩
              case measure => simp [intOf]; omega
          · have ej : j = k := by omega
            have HN := Lib.hid (scan_next HLK.out hs.out HI.out (by rw [← ej]; exact hid.out))
            have HM := Lib.hid (may_next HLK.out hm.out HI.out)
            clear ej hid
            go_wp2
            go_roundw
            case rel => exact ⟨k + 1, by omega, by go_num, by go_grown, HN, HM⟩
            case measure => simp [intOf]; omega
      · have HF := Lib.hid (ck_scan g0.out g12.out (scan_bad hl hs.out hi))
        have HI := Lib.hid hi
        clear hi hl hs hm
        go_wp2_with ((with_reducible refine (rmay_any r _ hok).mono ?_); rw [HI.out]; rintro e w1 ⟨rfl, rfl⟩)
        go_ret
        refine ⟨ret_int HF.out.symm, ?_⟩
        have hzz := hb.size
        go_grown
    · have HS := Lib.hid (scan_done (by rw [HL.out]; omega) hs.out)
      have HM := Lib.hid (may_done (by rw [HL.out]; omega) hm.out)
      clear hs hm
      go_wp2
      go_loopw [5, 6] (fun x u wr => ∃ (j y : Nat), j ≤ n ∧ x = .float .f64 y ∧ u = .int .i64 j ∧ Below w.heap.size w wr ∧ Hid (chn l j 0 = some y ∧ y ≤ 4607182418800017408)) (fun _ u _ => n - (intOf u).toNat)
      case atStart => exact ⟨0, 0, by omega, rfl, rfl, hb, rfl, by omega⟩
      case round =>
        clear hb
        obtain ⟨j, y, hj, rfl, rfl, hb, hch⟩ := hrel
        by_cases hjn : j < n
        · go_wp2
          go_loopw [7, 8] (fun nx i wx => ∃ k : Nat, k ≤ n ∧ i = .int .i64 k ∧ Below w.heap.size w wx ∧ ((nx = .int .i64 (-1) ∧ Hid (flC (l.take k) y = [])) ∨ ∃ (q : Nat) (r : Rg), q < k ∧ nx = .int .i64 q ∧ Hid (l[q]? = some r ∧ flC (l.take k) y = [r]))) (fun _ i _ => n - (intOf i).toNat)
          case atStart => exact ⟨0, by omega, rfl, hb, .inl ⟨rfl, rfl⟩⟩
          case round =>
            clear hb
            obtain ⟨k, hk, rfl, hb, hcase⟩ := hrel
            by_cases hlq : k < n
            · obtain ⟨ad, o, rfl, ho, hbk, hoko, c0, c1, c2, c3⟩ := (h.below RgRel.kept hb).rg hlq
              have hzz := hb.size
              obtain ⟨hp1, hp2, _, _, _⟩ := mayR_lo (HM.out o (List.mem_of_getElem? ho))
              have hyo := hch.out.2
              have hfe := feq_pt (a := o.lo) (b := y) (by omega) (by omega)
              have HN := Lib.hid (fl_next (x := y) ho)
              have HO := Lib.hid ho
              clear hp1 hp2 hyo ho hoko
              by_cases he : o.lo = y
              · rw [decide_eq_true he] at hfe
                have hfe' : (FloatKind.f64.format.order o.lo y == some Ordering.eq) = true := hfe
                have HE := Lib.hid he
                clear he hfe
                rcases hcase with ⟨rfl, hf⟩ | ⟨q, r, hq, rfl, hf⟩
                · have HC : Hid (l[k]? = some o ∧ flC (l.take (k + 1)) y = [o]) := Lib.hid ⟨HO.out, by rw [HN.out, hf.out, if_pos HE.out]; rfl⟩
                  clear hf
                  go_wp2
                  go_roundw
                  case rel => exact ⟨k + 1, by omega, by go_num, hb, .inr ⟨k, o, by omega, rfl, HC⟩⟩
                  case measure => simp [intOf]; omega
                · have hs : stepC l y = none := by
                    refine step_of_not ?_
                    have e1 : flC (l.take (k + 1)) y = [r, o] := by rw [HN.out, hf.out.2, if_pos HE.out]; rfl
                    have e2 : (flC (l.take (k + 1)) y).length ≤ (flC l y).length := by
                      unfold flC
                      exact ((List.take_sublist _ _).filter _).length_le
                    rw [e1] at e2
                    simp at e2
                    omega
                  have HF := Lib.hid (ck_no g0.out g12.out HS.out (fin_stuck' hch.out.1 hs (by rw [HL.out]; exact hjn)))
                  clear hs hf
                  go_wp2
                  go_ret
                  exact ⟨ret_int HF.out.symm, hb⟩
              · rw [decide_eq_false he] at hfe
                have hfe' : (FloatKind.f64.format.order o.lo y == some Ordering.eq) = false := hfe
                have HE := Lib.hid he
                clear he hfe
                have HN2 : Hid (flC (l.take (k + 1)) y = flC (l.take k) y) := Lib.hid (by rw [HN.out, if_neg HE.out, List.append_nil])
                go_wp2
                go_roundw
                case rel => exact ⟨k + 1, by omega, by go_num, hb, hcase.imp (fun ⟨a, b⟩ => ⟨a, by rw [HN2.out]; exact b⟩) (fun ⟨q, r, a, b, c⟩ => ⟨q, r, by omega, b, by rw [HN2.out]; exact c⟩)⟩
                case measure => simp [intOf]; omega
            · have hall : flC (l.take k) y = flC l y := by rw [List.take_of_length_le (by rw [HL.out]; omega)]
              rw [hall] at hcase
              clear hall
              rcases hcase with ⟨rfl, hf⟩ | ⟨q, r, hq, rfl, hf⟩
              · have hs : stepC l y = none := step_of_not (by rw [hf.out]; simp)
                have HF := Lib.hid (ck_no g0.out g12.out HS.out (fin_stuck' hch.out.1 hs (by rw [HL.out]; exact hjn)))
                clear hs hf
                go_wp2
                go_ret
                exact ⟨ret_int HF.out.symm, hb⟩
              · have hqn : q < n := by omega
                obtain ⟨ad, o, rfl, ho, hbk, hoko, c0, c1, c2, c3⟩ := (h.below RgRel.kept hb).rg hqn
                obtain rfl : r = o := Option.some.inj (hf.out.1.symm.trans ho)
                have hs : stepC l y = some r.hi := by unfold stepC; rw [hf.out.2]
                have HC : Hid (chn l (j + 1) 0 = some r.hi ∧ r.hi ≤ 4607182418800017408) := Lib.hid ⟨by rw [chn_snoc, hch.out.1]; exact hs, (step_up HM.out hs).2⟩
                clear hs hf ho
                go_wp2
                go_roundw
                case rel => exact ⟨j + 1, r.hi, by omega, rfl, by go_num, hb, HC⟩
                case measure => simp [intOf]; omega
        · have ej : j = n := by omega
          have hyo := hch.out.2
          have hc1 := hch.out.1
          rw [ej] at hc1
          have hfe := feq_pt (a := y) (b := 4607182418800017408) (by omega) (by omega)
          by_cases he : y = 4607182418800017408
          · rw [decide_eq_true he] at hfe
            have hfe' : (FloatKind.f64.format.order y 4607182418800017408 != some Ordering.eq) = false := by
              have : (FloatKind.f64.format.order y 4607182418800017408 == some Ordering.eq) = true := hfe
              simpa using this
            have HF := Lib.hid (ck_yes g0.out g12.out HS.out (by rw [HL.out, hc1, he]))
            clear he hfe ej hyo hc1
            go_wp2
            go_ret
            exact ⟨ret_int HF.out.symm, hb⟩
          · rw [decide_eq_false he] at hfe
            have hfe' : (FloatKind.f64.format.order y 4607182418800017408 != some Ordering.eq) = true := by
              have : (FloatKind.f64.format.order y 4607182418800017408 == some Ordering.eq) = false := hfe
              simpa using this
            have HF := Lib.hid (ck_no g0.out g12.out HS.out (by rw [HL.out, hc1]; simpa using he))
            clear he hfe ej hyo hc1
            go_wp2
            go_ret
            exact ⟨ret_int HF.out.symm, hb⟩
end Go.Proofs.Ytbclfcfcpmlaaaa
