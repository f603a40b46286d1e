/- The walk of the reference's (*Reader).Int. -/
import Derived.Test.YtglddefjmnjgdaaQa
import Derived.Deep.RegionHeld3
namespace Go.Proofs.Ytglddefjmnjgdaa
open Go.RowKit Fl

/-- what the reference does at a fault -/
def xFail (s : RS) (e : Int) (q : Nat) : RS := if s.e = 0 then ⟨s.at_, e, q⟩ else s
theorem xFail_eq {s : RS} {e : Int} {q : Nat} (h : e ≠ 0) : xFail s e q = rFail s e q := by
  unfold xFail rFail
  by_cases h1 : s.e = 0
  · rw [if_pos h1, if_pos ⟨h1, h⟩]
  · rw [if_neg h1, if_neg (fun h2 => h1 h2.1)]

set_option maxHeartbeats 4000000 in
theorem xstop (g : Nat) (A : Option Addr) (n c : Nat) (l : List UInt8) (s : RS) (e : Int) (q : Nat) (w : World) (h : Rd 58 w g A n c l s) :
    Calls Try.prog 62 #[.pointer (some ⟨g, 0, none⟩), .int .i64 e, .int .i64 (q : Int)] w (RdPost 58 w g A n c l (.tuple #[]) (xFail s e q)) := by
  obtain ⟨hgl, c0, c1, c2, c3, f0, f1, f2, f3⟩ := h.blk.four
  by_cases h1 : s.e = 0
  · have hs : xFail s e q = ⟨s.at_, e, q⟩ := by unfold xFail; rw [if_pos h1]
    have hb1 : (s.e == 0) = true := by simp [h1]
    go_enter Try.func62, Try.ntmps62
    go_wp2
    go_end0
    rw [hs]
    exact ⟨rfl, h.faulted e q, (grown_set _ _ _ _).trans (grown_set _ _ _ _)⟩
  · have hs : xFail s e q = s := by unfold xFail; rw [if_neg h1]
    have hb1 : (s.e == 0) = false := by simp [h1]
    go_enter Try.func62, Try.ntmps62
    go_wp2
    go_end0
    rw [hs]
    exact ⟨rfl, h, World.grownBy.refl _ _⟩

theorem Reads.window {w : World} {B n l h : Nat} {ad : Addr} {xs : List Value} (hr : Reads w B 1 (some ad) n xs) (hlh : l ≤ h) (hh : h ≤ n) : Reads w B 1 (some (ad.add l)) (h - l) ((xs.drop l).take (h - l)) := by
  refine ⟨by rw [List.length_take, List.length_drop, hr.1]; omega, fun hn => ?_⟩
  obtain ⟨ad', e, hb, hc⟩ := hr.2 (by omega)
  obtain rfl := Option.some.inj e
  refine ⟨_, rfl, by rw [block_of_add]; exact hb, fun j u hu => ?_⟩
  rw [add_of_add]
  rw [List.getElem?_take] at hu
  split at hu
  · exact hc _ u (by rw [← hu, List.getElem?_drop])
  · cases hu
theorem shl7_or (u : Nat) (x : UInt8) : bits .or .u64 (IntKind.u64.wrap ((u : Int) * 128)) ((x.toNat : Int) % 128) = (((x.toNat % 128 + 128 * u) % 18446744073709551616 : Nat) : Int) := by
  have hm : x.toNat % 128 < 128 := Nat.mod_lt _ (by omega)
  have e : IntKind.u64.wrap ((u : Int) * 128) = ((u * 128 % 18446744073709551616 : Nat) : Int) := by rw [IntKind.wrap_u64]; omega
  have e2 : (x.toNat : Int) % 128 = ((x.toNat % 128 : Nat) : Int) := by omega
  rw [e, e2, Go.u64_or_nat _ _ (by omega) (by omega)]
  congr 1
  rw [Go.nat_join 7 _ _ (by show _ % 128 = 0; omega) hm]
  omega
/-- what the reference makes of a row of groups -/
def xval (bs : List UInt8) : Nat := if bs.length ≤ 10 then val bs % 18446744073709551616 else 0
theorem xval_lt (bs : List UInt8) : xval bs < 18446744073709551616 := by unfold xval; split <;> omega
theorem xval_good {bs : List UInt8} (h : grp bs = some bs) (hg : good bs = true) : encI (unzig (xval bs)) = bs ∧ xval bs = val bs := by
  obtain ⟨h1, h2⟩ := enc_good h hg
  unfold good over at hg
  simp only [Bool.and_eq_true, Bool.not_eq_true', Bool.or_eq_false_iff, decide_eq_false_iff_not] at hg
  have e : xval bs = val bs := by unfold xval; rw [if_pos (by omega), Nat.mod_eq_of_lt h2]
  exact ⟨by unfold encI; rw [zig_unzig, e, h1], e⟩
theorem xval_bad {bs : List UInt8} (hg : good bs = false) : encI (unzig (xval bs)) ≠ bs := by
  intro h
  unfold encI at h
  rw [zig_unzig] at h
  have := good_enc (xval_lt bs)
  rw [h, hg] at this
  cases this

def XNum1 (l : List UInt8) (a n : Nat) (w : World) (i : Value) (wr : World) : Prop :=
  ∃ k : Nat, w = wr ∧ a ≤ k ∧ k ≤ n ∧ i = .int .i64 (k : Int) ∧ ∀ c ∈ (l.drop a).take (k - a), 128 ≤ c.toNat
def XNum2 (bs : List UInt8) (a : Nat) (w : World) (u i : Value) (wr : World) : Prop :=
  ∃ (j q : Nat), w.drewN q = wr ∧ j ≤ bs.length ∧ i = .int .i64 ((a : Int) + (j : Int) - 1) ∧ (bs.length ≤ 10 → u = .int .u64 ((val (bs.drop j) % 18446744073709551616 : Nat) : Int)) ∧ (10 < bs.length → u = .int .u64 0 ∧ j = bs.length)

theorem _root_.Go.RowKit.Below.grownBy' {w w' : World} (h : Below w.heap.size w w') (r : Option Nat) : w.grownBy w' r := ⟨h.os, h.tape, h.output, h.size, fun k hk _ => h.block k hk⟩

set_option linter.unusedSimpArgs false in
set_option maxRecDepth 100000 in
set_option maxHeartbeats 8000000 in
theorem xRInt (g : Nat) (A : Option Addr) (n c : Nat) (l : List UInt8) (s : RS) (w : World) (h : Rd 58 w g A n c l s) :
    Calls Try.prog 49 #[.pointer (some ⟨g, 0, none⟩)] w (RdPost 58 w g A n c l (.int .i64 (rInt l s).1) (rInt l s).2) := by
  obtain ⟨hgl, c0, c1, c2, c3, f0, f1, f2, f3⟩ := h.blk.four
  have hnc := h.nc
  have hlen := h.len
  have hsm := h.small
  have hal := h.at_le
  by_cases h1 : s.e = 0
  · have hb1 : (s.e != 0) = false := by simp [h1]
    have H1 := Lib.hid h1
    go_enter Try.func49, Try.ntmps49
    clear h1
    go_wp2
    go_loopw [3] (fun i wr => XNum1 l s.at_ n w i wr) (fun i _ => n - (intOf i).toNat)
    case atStart => exact ⟨s.at_, rfl, Nat.le_refl _, hal, rfl, by simp⟩
    case round =>
      obtain ⟨k, rfl, hak, hkn, rfl, hbig⟩ := hrel
      by_cases hlt : k < n
      · obtain ⟨ad, x, rfl, hadl, hx, hcell⟩ := h.cell hlt
        have hb3 : decide ((k : Int) < (n : Int)) = true := by simp; omega
        have hxl := x.toNat_lt
        by_cases hc : 128 ≤ x.toNat
        · have hb4 : decide ((128 : Int) ≤ (x.toNat : Int)) = true := by simp; omega
          go_wp2
          go_roundw
          case rel =>
            refine ⟨k + 1, rfl, by omega, by omega, by go_num, ?_⟩
            rw [show k + 1 - s.at_ = (k - s.at_) + 1 from by omega, List.take_add_one, List.getElem?_drop, show s.at_ + (k - s.at_) = k from by omega, hx]
            intro d hd
            rcases List.mem_append.1 hd with hd | hd
            · exact hbig d hd
            · obtain rfl : d = x := by simpa using hd
              exact hc
          case measure => simp [intOf]; omega
        · have hb4 : decide ((128 : Int) ≤ (x.toNat : Int)) = false := by simp; omega
          have hg : grp (l.drop s.at_) = some ((l.drop s.at_).take (k - s.at_) ++ [x]) := grp_take rfl hbig (by rw [show s.at_ + (k - s.at_) = k from by omega]; exact hx) (by omega)
          have hbs : (l.drop s.at_).take (k + 1 - s.at_) = (l.drop s.at_).take (k - s.at_) ++ [x] := by
            rw [show k + 1 - s.at_ = (k - s.at_) + 1 from by omega, List.take_add_one, List.getElem?_drop, show s.at_ + (k - s.at_) = k from by omega, hx]; rfl
          have hpl : ((l.drop s.at_).take (k - s.at_)).length = k - s.at_ := by rw [List.length_take, List.length_drop]; omega
          have hb5 : ((k : Int) == (n : Int)) = false := by simp; omega
          generalize hbb : (l.drop s.at_).take (k - s.at_) ++ [x] = bs at *
          have hbl : bs.length = k - s.at_ + 1 := by rw [← hbb, List.length_append, hpl]; rfl
          have hbx : ∀ j, j < bs.length → bs[j]? = l[s.at_ + j]? := by
            intro j hj
            rw [← hbs, List.getElem?_take_of_lt (by omega), List.getElem?_drop]
          have hgbs : grp bs = some bs := by
            obtain ⟨_, _, _, _, _, _, h⟩ := grp_some hg
            exact h
          have HS : RowKit.Hid (rInt l s = if good bs = true then (unzig (val bs), ⟨k + 1, s.e, s.p⟩) else (0, xFail s 4 s.at_)) := by
            unfold rInt
            rw [if_neg (by simp [H1.out])]
            unfold dec
            rw [hg]
            simp only
            by_cases hgd : good bs = true
            · rw [if_pos hgd, if_pos hgd]; simp only; rw [hbl]; congr 2; omega
            · rw [if_neg hgd, if_neg hgd, xFail_eq (by omega)]; exact rfl
          have HG := Lib.hid hgbs
          have HB := Lib.hid hbs
          have hbl1 : bs.length ≤ k - s.at_ + 1 := by omega
          have hbl2 : k - s.at_ + 1 ≤ bs.length := by omega
          clear hgbs hg hbs hbb hbl hpl hb1 hlen hx
          go_wp2
          go_loopw [4, 5] (fun u i wr => XNum2 bs s.at_ w u i wr) (fun _ i _ => (intOf i + 1).toNat)
          case atStart =>
            refine ⟨bs.length, 0, rfl, Nat.le_refl _, ?_, ?_, ?_⟩
            · go_num
            · intro _; rw [List.drop_length]; rfl
            · intro _; exact ⟨rfl, rfl⟩
          case round =>
            obtain ⟨j, q, rfl, hj, rfl, hu1, hu2⟩ := hrel
            have hexit : (10 < bs.length ∧ j = bs.length) ∨ (bs.length ≤ 10 ∧ j = 0) ∨ (bs.length ≤ 10 ∧ ∃ j', j = j' + 1) := by
              by_cases h10 : 10 < bs.length
              · exact .inl ⟨h10, (hu2 h10).2⟩
              · rcases j with _ | j'
                · exact .inr (.inl ⟨by omega, rfl⟩)
                · exact .inr (.inr ⟨by omega, j', rfl⟩)
            rcases hexit with ⟨h10, rfl⟩ | ⟨h10, rfl⟩ | ⟨h10, j', rfl⟩
            · have hb6 : decide ((k : Int) - (s.at_ : Int) < 10) = false := by simp; omega
              obtain ⟨rfl, _⟩ := hu2 h10
              clear hu1 hu2 hbx hcell
              have HK : RowKit.Hid (unzig (xval bs) = 0) := by unfold xval; rw [if_neg (by omega)]; exact rfl
              go_wp2
              have hA' := h.reads.window (l := s.at_) (h := k + 1) (by omega) (by omega)
              rw [bytesV_drop, HB.out] at hA'
              have hne : ¬ c = s.at_ := by omega
              have hkc : (k : Int) + 1 ≤ (c : Int) := by omega
              have hk0 : (0 : Int) ≤ (k : Int) + 1 := by omega
              have hsk : s.at_ ≤ k + 1 := by omega
              have hcv : ∀ w' : World, (∀ p : Addr, p.block < w.heap.size → w'.cell? p = w.cell? p) → (convert 31 9 (.slice (some (ad.add s.at_)) (k + 1 - s.at_) (c - s.at_))).run Try.prog w' = .ok (.string ⟨bs.toArray⟩) w' :=
                fun w' hk => run_conv_reads _ _ _ _ Try.underlying31 Try.underlying5 Try.underlying9 (hA'.keep hk)
              have hwr : IntKind.i64.wrap ((k : Int) + 1) = (k : Int) + 1 := by rw [IntKind.wrap_i64]; omega
              clear hA'
              cases hgd : good bs
              · have hb7 : (encI (0) == bs) = false := by rw [← HK.out]; simp; exact xval_bad hgd
                refine wp_region_held_drew (S := fun w' => (∀ p : Addr, p.block < w.heap.size → w'.cell? p = w.cell? p) ∧ (w'.cell? ⟨g, 0, none⟩ = some (.slice (some ad) n c) ∧ w'.cell? ⟨g, 1, none⟩ = some (.int .i64 (s.at_ : Int))) ∧ (convert 31 9 (.slice (some (ad.add s.at_)) (k + 1 - s.at_) (c - s.at_))).run Try.prog w' = .ok (.string ⟨bs.toArray⟩) w')
                  (by kernel_rfl) ⟨fun p hp => rfl, ⟨c0, c1⟩, hcv _ (fun p hp => rfl)⟩ (fun hHeld => ?_)
                refine wpAnyH_take (i := 0) (v := ?vb0x0) rfl (by kernel_rfl) (by kernel_rfl) (by kernel_rfl) (fun _ _ _ h => h) (Or.inl ⟨by rfl, ?hb0x0⟩) (by assumption) ?rb0x0
                case hb0x0 =>
                  intro w hSw
                  try dsimp only at hSw
                  go_simp
                  try with_reducible rfl
                try simp only [Act.put, List.setIfInBounds_toArray, List.set_cons_zero, List.set_cons_succ]
                refine wpAnyH_take (i := 3) (v := ?vb0x3) rfl (by kernel_rfl) (by kernel_rfl) (by kernel_rfl) (fun _ _ _ h => h) (Or.inl ⟨by rfl, ?hb0x3⟩) (by assumption) ?rb0x3
                case hb0x3 =>
                  intro w hSw
                  try dsimp only at hSw
                  go_simp
                  try with_reducible rfl
                try simp only [Act.put, List.setIfInBounds_toArray, List.set_cons_zero, List.set_cons_succ]
                refine wpAnyH_take (i := 4) (v := ?vb0x4) rfl (by kernel_rfl) (by kernel_rfl) (by kernel_rfl) (fun _ _ _ h => h) (Or.inl ⟨by rfl, ?hb0x4⟩) (by assumption) ?rb0x4
                case hb0x4 =>
                  intro w hSw
                  try dsimp only at hSw
                  go_simp
                  try with_reducible rfl
                try simp only [Act.put, List.setIfInBounds_toArray, List.set_cons_zero, List.set_cons_succ]
                refine wpAnyH_take (i := 5) (v := ?vb0x5) rfl (by kernel_rfl) (by kernel_rfl) (by kernel_rfl) (fun _ _ _ h => h) (Or.inl ⟨by rfl, ?hb0x5⟩) (by assumption) ?rb0x5
                case hb0x5 =>
                  intro w hSw
                  try dsimp only at hSw
                  go_simp
                  try with_reducible rfl
                try simp only [Act.put, List.setIfInBounds_toArray, List.set_cons_zero, List.set_cons_succ]
                refine wpAnyH_take (i := 6) (v := ?vb0x6) rfl (by kernel_rfl) (by kernel_rfl) (by kernel_rfl) (fun _ _ _ h => h) (Or.inl ⟨by rfl, ?hb0x6⟩) (by assumption) ?rb0x6
                case hb0x6 =>
                  intro w hSw
                  try dsimp only at hSw
                  go_simp
                  try with_reducible rfl
                try simp only [Act.put, List.setIfInBounds_toArray, List.set_cons_zero, List.set_cons_succ]
                refine wpAnyH_take (i := 7) (v := ?vb0x7) rfl (by kernel_rfl) (by kernel_rfl) (by kernel_rfl) (fun _ _ _ h => h) (Or.inl ⟨by rfl, ?hb0x7⟩) (by assumption) ?rb0x7
                case hb0x7 =>
                  intro w hSw
                  try dsimp only at hSw
                  go_simp
                  try with_reducible rfl
                try simp only [Act.put, List.setIfInBounds_toArray, List.set_cons_zero, List.set_cons_succ]
                refine wpAnyH_take (i := 8) (v := ?vb0x8) rfl (by kernel_rfl) (by kernel_rfl) (by kernel_rfl) (fun _ _ _ h => h) (Or.inl ⟨by rfl, ?hb0x8⟩) (by assumption) ?rb0x8
                case hb0x8 =>
                  intro w hSw
                  try dsimp only at hSw
                  go_simp
                  try with_reducible rfl
                try simp only [Act.put, List.setIfInBounds_toArray, List.set_cons_zero, List.set_cons_succ]
                refine wpAnyH_take (i := 9) (v := ?vb0x9) rfl (by kernel_rfl) (by kernel_rfl) (by kernel_rfl) (fun _ _ _ h => h) (Or.inl ⟨by rfl, ?hb0x9⟩) (by assumption) ?rb0x9
                case hb0x9 =>
                  intro w hSw
                  try dsimp only at hSw
                  go_simp
                  try with_reducible rfl
                try simp only [Act.put, List.setIfInBounds_toArray, List.set_cons_zero, List.set_cons_succ]
                refine wpAnyH_take (i := 10) (v := ?vb0x10) rfl (by kernel_rfl) (by kernel_rfl) (by kernel_rfl) (fun _ _ _ h => h) (Or.inl ⟨by rfl, ?hb0x10⟩) (by assumption) ?rb0x10
                case hb0x10 =>
                  intro w hSw
                  try dsimp only at hSw
                  go_simp
                  try with_reducible rfl
                try simp only [Act.put, List.setIfInBounds_toArray, List.set_cons_zero, List.set_cons_succ]
                refine wpAnyH_take (i := 11) (v := ?vb0x11) rfl (by kernel_rfl) (by kernel_rfl) (by kernel_rfl) (fun _ _ _ h => h) (Or.inl ⟨by rfl, ?hb0x11⟩) (by assumption) ?rb0x11
                case hb0x11 =>
                  intro w hSw
                  try dsimp only at hSw
                  go_simp
                  try with_reducible rfl
                try simp only [Act.put, List.setIfInBounds_toArray, List.set_cons_zero, List.set_cons_succ]
                refine wpAnyH_take (i := 12) (v := ?vb0x12) rfl (by kernel_rfl) (by kernel_rfl) (by kernel_rfl) (fun _ _ _ h => h) (Or.inl ⟨by rfl, ?hb0x12⟩) (by assumption) ?rb0x12
                case hb0x12 =>
                  intro w hSw
                  try dsimp only at hSw
                  go_simp
                  try with_reducible rfl
                try simp only [Act.put, List.setIfInBounds_toArray, List.set_cons_zero, List.set_cons_succ]
                refine wpAnyH_take (i := 13) (v := ?vb0x13) rfl (by kernel_rfl) (by kernel_rfl) (by kernel_rfl) (fun _ _ _ h => h) (Or.inl ⟨by rfl, ?hb0x13⟩) (by assumption) ?rb0x13
                case hb0x13 =>
                  intro w hSw
                  try dsimp only at hSw
                  go_simp
                  try with_reducible rfl
                try simp only [Act.put, List.setIfInBounds_toArray, List.set_cons_zero, List.set_cons_succ]
                refine wpAnyH_take (i := 14) (v := ?vb0x14) rfl (by kernel_rfl) (by kernel_rfl) (by kernel_rfl) (fun _ _ _ h => h) (Or.inl ⟨by rfl, ?hb0x14⟩) (by assumption) ?rb0x14
                case hb0x14 =>
                  intro w hSw
                  try dsimp only at hSw
                  go_simp
                  try with_reducible rfl
                try simp only [Act.put, List.setIfInBounds_toArray, List.set_cons_zero, List.set_cons_succ]
                refine wpAnyH_ready (rs := [1]) (by kernel_rfl) (by simp) ?_
                refine AllReadyH.cons rfl (fun K hK => ?_) AllReadyH.nil
                go_simp
                (with_reducible refine (xint _ _ (by omega) (by omega)).mono ?_)
                rintro e w1 ⟨A1, cc, rfl, hA1, hA2, hown, hb⟩
                have hS1 := And.intro (fun (p : Addr) (hp : p.block < w.heap.size) => hb.cell hp) (And.intro (And.intro ((hb.cell (p := ⟨g, 0, none⟩) hgl).trans c0) ((hb.cell (p := ⟨g, 1, none⟩) hgl).trans c1)) (hcv w1 (fun p hp => hb.cell hp)))
                have hcv1 := run_conv_reads (P := Try.prog) w1 31 9 5 (c := cc) Try.underlying31 Try.underlying5 Try.underlying9 (Reads.of_own hown)
                obtain ⟨hgl', c0', c1', c2', c3', f0', f1', f2', f3'⟩ := ((h.drewN (q + 1)).below hb).blk.four
                go_simp
                refine hK.out _ _ hS1 (fun hHeld => ?_)
                clear hK K
                try simp only [Act.put, List.setIfInBounds_toArray, List.set_cons_zero, List.set_cons_succ]
                refine wpAnyH_ready (rs := [2]) (by kernel_rfl) (by simp) ?_
                refine AllReadyH.cons rfl (fun K hK => ?_) AllReadyH.nil
                go_simp
                refine hK.out _ _ hS1 (fun hHeld => ?_)
                clear hK K
                try simp only [Act.put, List.setIfInBounds_toArray, List.set_cons_zero, List.set_cons_succ]
                refine wpAnyH_ready (rs := [15]) (by kernel_rfl) (by simp) ?_
                refine AllReadyH.cons rfl (fun K hK => ?_) AllReadyH.nil
                go_simp
                refine hK.out _ _ hS1 (fun hHeld => ?_)
                clear hK K
                try simp only [Act.put, List.setIfInBounds_toArray, List.set_cons_zero, List.set_cons_succ]
                refine wpAnyH_done (by kernel_rfl) ?_ _
                clear hS1 hHeld
                go_wp2_with ((with_reducible refine (xstop g _ _ _ _ _ _ _ _ ((h.drewN (q + 1)).below hb)).mono ?_); rintro e w2 ⟨rfl, hr2, hg2⟩)
                go_ret
                rw [HS.out, if_neg (by rw [hgd]; decide)]
                exact ⟨rfl, hr2, ((grown_drewN (World.grownBy.refl _ _) _).trans (hb.grownBy' (some g))).trans hg2⟩
              · have hb7 : (encI (0) == bs) = true := by rw [← HK.out, (xval_good HG.out hgd).1]; simp
                refine wp_region_held_drew (S := fun w' => (∀ p : Addr, p.block < w.heap.size → w'.cell? p = w.cell? p) ∧ (w'.cell? ⟨g, 0, none⟩ = some (.slice (some ad) n c) ∧ w'.cell? ⟨g, 1, none⟩ = some (.int .i64 (s.at_ : Int))) ∧ (convert 31 9 (.slice (some (ad.add s.at_)) (k + 1 - s.at_) (c - s.at_))).run Try.prog w' = .ok (.string ⟨bs.toArray⟩) w')
                  (by kernel_rfl) ⟨fun p hp => rfl, ⟨c0, c1⟩, hcv _ (fun p hp => rfl)⟩ (fun hHeld => ?_)
                refine wpAnyH_take (i := 0) (v := ?vg0x0) rfl (by kernel_rfl) (by kernel_rfl) (by kernel_rfl) (fun _ _ _ h => h) (Or.inl ⟨by rfl, ?hg0x0⟩) (by assumption) ?rg0x0
                case hg0x0 =>
                  intro w hSw
                  try dsimp only at hSw
                  go_simp
                  try with_reducible rfl
                try simp only [Act.put, List.setIfInBounds_toArray, List.set_cons_zero, List.set_cons_succ]
                refine wpAnyH_take (i := 3) (v := ?vg0x3) rfl (by kernel_rfl) (by kernel_rfl) (by kernel_rfl) (fun _ _ _ h => h) (Or.inl ⟨by rfl, ?hg0x3⟩) (by assumption) ?rg0x3
                case hg0x3 =>
                  intro w hSw
                  try dsimp only at hSw
                  go_simp
                  try with_reducible rfl
                try simp only [Act.put, List.setIfInBounds_toArray, List.set_cons_zero, List.set_cons_succ]
                refine wpAnyH_take (i := 4) (v := ?vg0x4) rfl (by kernel_rfl) (by kernel_rfl) (by kernel_rfl) (fun _ _ _ h => h) (Or.inl ⟨by rfl, ?hg0x4⟩) (by assumption) ?rg0x4
                case hg0x4 =>
                  intro w hSw
                  try dsimp only at hSw
                  go_simp
                  try with_reducible rfl
                try simp only [Act.put, List.setIfInBounds_toArray, List.set_cons_zero, List.set_cons_succ]
                refine wpAnyH_take (i := 5) (v := ?vg0x5) rfl (by kernel_rfl) (by kernel_rfl) (by kernel_rfl) (fun _ _ _ h => h) (Or.inl ⟨by rfl, ?hg0x5⟩) (by assumption) ?rg0x5
                case hg0x5 =>
                  intro w hSw
                  try dsimp only at hSw
                  go_simp
                  try with_reducible rfl
                try simp only [Act.put, List.setIfInBounds_toArray, List.set_cons_zero, List.set_cons_succ]
                refine wpAnyH_take (i := 6) (v := ?vg0x6) rfl (by kernel_rfl) (by kernel_rfl) (by kernel_rfl) (fun _ _ _ h => h) (Or.inl ⟨by rfl, ?hg0x6⟩) (by assumption) ?rg0x6
                case hg0x6 =>
                  intro w hSw
                  try dsimp only at hSw
                  go_simp
                  try with_reducible rfl
                try simp only [Act.put, List.setIfInBounds_toArray, List.set_cons_zero, List.set_cons_succ]
                refine wpAnyH_take (i := 7) (v := ?vg0x7) rfl (by kernel_rfl) (by kernel_rfl) (by kernel_rfl) (fun _ _ _ h => h) (Or.inl ⟨by rfl, ?hg0x7⟩) (by assumption) ?rg0x7
                case hg0x7 =>
                  intro w hSw
                  try dsimp only at hSw
                  go_simp
                  try with_reducible rfl
                try simp only [Act.put, List.setIfInBounds_toArray, List.set_cons_zero, List.set_cons_succ]
                refine wpAnyH_take (i := 8) (v := ?vg0x8) rfl (by kernel_rfl) (by kernel_rfl) (by kernel_rfl) (fun _ _ _ h => h) (Or.inl ⟨by rfl, ?hg0x8⟩) (by assumption) ?rg0x8
                case hg0x8 =>
                  intro w hSw
                  try dsimp only at hSw
                  go_simp
                  try with_reducible rfl
                try simp only [Act.put, List.setIfInBounds_toArray, List.set_cons_zero, List.set_cons_succ]
                refine wpAnyH_take (i := 9) (v := ?vg0x9) rfl (by kernel_rfl) (by kernel_rfl) (by kernel_rfl) (fun _ _ _ h => h) (Or.inl ⟨by rfl, ?hg0x9⟩) (by assumption) ?rg0x9
                case hg0x9 =>
                  intro w hSw
                  try dsimp only at hSw
                  go_simp
                  try with_reducible rfl
                try simp only [Act.put, List.setIfInBounds_toArray, List.set_cons_zero, List.set_cons_succ]
                refine wpAnyH_take (i := 10) (v := ?vg0x10) rfl (by kernel_rfl) (by kernel_rfl) (by kernel_rfl) (fun _ _ _ h => h) (Or.inl ⟨by rfl, ?hg0x10⟩) (by assumption) ?rg0x10
                case hg0x10 =>
                  intro w hSw
                  try dsimp only at hSw
                  go_simp
                  try with_reducible rfl
                try simp only [Act.put, List.setIfInBounds_toArray, List.set_cons_zero, List.set_cons_succ]
                refine wpAnyH_take (i := 11) (v := ?vg0x11) rfl (by kernel_rfl) (by kernel_rfl) (by kernel_rfl) (fun _ _ _ h => h) (Or.inl ⟨by rfl, ?hg0x11⟩) (by assumption) ?rg0x11
                case hg0x11 =>
                  intro w hSw
                  try dsimp only at hSw
                  go_simp
                  try with_reducible rfl
                try simp only [Act.put, List.setIfInBounds_toArray, List.set_cons_zero, List.set_cons_succ]
                refine wpAnyH_take (i := 12) (v := ?vg0x12) rfl (by kernel_rfl) (by kernel_rfl) (by kernel_rfl) (fun _ _ _ h => h) (Or.inl ⟨by rfl, ?hg0x12⟩) (by assumption) ?rg0x12
                case hg0x12 =>
                  intro w hSw
                  try dsimp only at hSw
                  go_simp
                  try with_reducible rfl
                try simp only [Act.put, List.setIfInBounds_toArray, List.set_cons_zero, List.set_cons_succ]
                refine wpAnyH_take (i := 13) (v := ?vg0x13) rfl (by kernel_rfl) (by kernel_rfl) (by kernel_rfl) (fun _ _ _ h => h) (Or.inl ⟨by rfl, ?hg0x13⟩) (by assumption) ?rg0x13
                case hg0x13 =>
                  intro w hSw
                  try dsimp only at hSw
                  go_simp
                  try with_reducible rfl
                try simp only [Act.put, List.setIfInBounds_toArray, List.set_cons_zero, List.set_cons_succ]
                refine wpAnyH_take (i := 14) (v := ?vg0x14) rfl (by kernel_rfl) (by kernel_rfl) (by kernel_rfl) (fun _ _ _ h => h) (Or.inl ⟨by rfl, ?hg0x14⟩) (by assumption) ?rg0x14
                case hg0x14 =>
                  intro w hSw
                  try dsimp only at hSw
                  go_simp
                  try with_reducible rfl
                try simp only [Act.put, List.setIfInBounds_toArray, List.set_cons_zero, List.set_cons_succ]
                refine wpAnyH_ready (rs := [1]) (by kernel_rfl) (by simp) ?_
                refine AllReadyH.cons rfl (fun K hK => ?_) AllReadyH.nil
                go_simp
                (with_reducible refine (xint _ _ (by omega) (by omega)).mono ?_)
                rintro e w1 ⟨A1, cc, rfl, hA1, hA2, hown, hb⟩
                have hS1 := And.intro (fun (p : Addr) (hp : p.block < w.heap.size) => hb.cell hp) (And.intro (And.intro ((hb.cell (p := ⟨g, 0, none⟩) hgl).trans c0) ((hb.cell (p := ⟨g, 1, none⟩) hgl).trans c1)) (hcv w1 (fun p hp => hb.cell hp)))
                have hcv1 := run_conv_reads (P := Try.prog) w1 31 9 5 (c := cc) Try.underlying31 Try.underlying5 Try.underlying9 (Reads.of_own hown)
                obtain ⟨hgl', c0', c1', c2', c3', f0', f1', f2', f3'⟩ := ((h.drewN (q + 1)).below hb).blk.four
                go_simp
                refine hK.out _ _ hS1 (fun hHeld => ?_)
                clear hK K
                try simp only [Act.put, List.setIfInBounds_toArray, List.set_cons_zero, List.set_cons_succ]
                refine wpAnyH_ready (rs := [2]) (by kernel_rfl) (by simp) ?_
                refine AllReadyH.cons rfl (fun K hK => ?_) AllReadyH.nil
                go_simp
                refine hK.out _ _ hS1 (fun hHeld => ?_)
                clear hK K
                try simp only [Act.put, List.setIfInBounds_toArray, List.set_cons_zero, List.set_cons_succ]
                refine wpAnyH_ready (rs := [15]) (by kernel_rfl) (by simp) ?_
                refine AllReadyH.cons rfl (fun K hK => ?_) AllReadyH.nil
                go_simp
                refine hK.out _ _ hS1 (fun hHeld => ?_)
                clear hK K
                try simp only [Act.put, List.setIfInBounds_toArray, List.set_cons_zero, List.set_cons_succ]
                refine wpAnyH_done (by kernel_rfl) ?_ _
                clear hS1 hHeld
                go_wp2
                go_ret
                rw [HS.out, if_pos hgd]
                have hr1 := ((h.drewN (q + 1)).below hb).moved (k := k + 1) (by omega)
                rw [Int.natCast_add] at hr1
                exact ⟨ret_int (by rw [← (xval_good HG.out hgd).2, HK.out]), hr1, ((grown_drewN (World.grownBy.refl _ _) _).trans (hb.grownBy' (some g))).trans (grown_set _ _ _ _)⟩
            · have hu := hu1 h10
              rw [List.drop_zero] at hu
              subst hu
              clear hu1 hu2 hbx hcell
              have hVx : xval bs = val bs % 18446744073709551616 := by unfold xval; rw [if_pos h10]
              have hVl := xval_lt bs
              rw [← hVx]
              generalize hV : xval bs = V at *
              clear hVx
              have HV := Lib.hid hV
              clear hV
              by_cases hodd : V % 2 = 0
              · have hs4 : ((V : Int) % 2 == 1) = false := by simp; omega
                have HK : RowKit.Hid (unzig (xval bs) = (V : Int) / 2) := by rw [HV.out]; unfold unzig; rw [if_pos hodd]; show _ = _; omega
                clear hodd
                go_wp2
                have hA' := h.reads.window (l := s.at_) (h := k + 1) (by omega) (by omega)
                rw [bytesV_drop, HB.out] at hA'
                have hne : ¬ c = s.at_ := by omega
                have hkc : (k : Int) + 1 ≤ (c : Int) := by omega
                have hk0 : (0 : Int) ≤ (k : Int) + 1 := by omega
                have hsk : s.at_ ≤ k + 1 := by omega
                have hcv : ∀ w' : World, (∀ p : Addr, p.block < w.heap.size → w'.cell? p = w.cell? p) → (convert 31 9 (.slice (some (ad.add s.at_)) (k + 1 - s.at_) (c - s.at_))).run Try.prog w' = .ok (.string ⟨bs.toArray⟩) w' :=
                  fun w' hk => run_conv_reads _ _ _ _ Try.underlying31 Try.underlying5 Try.underlying9 (hA'.keep hk)
                have hwr : IntKind.i64.wrap ((k : Int) + 1) = (k : Int) + 1 := by rw [IntKind.wrap_i64]; omega
                clear hA'
                cases hgd : good bs
                · have hb7 : (encI ((V : Int) / 2) == bs) = false := by rw [← HK.out]; simp; exact xval_bad hgd
                  refine wp_region_held_drew (S := fun w' => (∀ p : Addr, p.block < w.heap.size → w'.cell? p = w.cell? p) ∧ (w'.cell? ⟨g, 0, none⟩ = some (.slice (some ad) n c) ∧ w'.cell? ⟨g, 1, none⟩ = some (.int .i64 (s.at_ : Int))) ∧ (convert 31 9 (.slice (some (ad.add s.at_)) (k + 1 - s.at_) (c - s.at_))).run Try.prog w' = .ok (.string ⟨bs.toArray⟩) w')
                    (by kernel_rfl) ⟨fun p hp => rfl, ⟨c0, c1⟩, hcv _ (fun p hp => rfl)⟩ (fun hHeld => ?_)
                  refine wpAnyH_take (i := 0) (v := ?vb1x0) rfl (by kernel_rfl) (by kernel_rfl) (by kernel_rfl) (fun _ _ _ h => h) (Or.inl ⟨by rfl, ?hb1x0⟩) (by assumption) ?rb1x0
                  case hb1x0 =>
                    intro w hSw
                    try dsimp only at hSw
                    go_simp
                    try with_reducible rfl
                  try simp only [Act.put, List.setIfInBounds_toArray, List.set_cons_zero, List.set_cons_succ]
                  refine wpAnyH_take (i := 3) (v := ?vb1x3) rfl (by kernel_rfl) (by kernel_rfl) (by kernel_rfl) (fun _ _ _ h => h) (Or.inl ⟨by rfl, ?hb1x3⟩) (by assumption) ?rb1x3
                  case hb1x3 =>
                    intro w hSw
                    try dsimp only at hSw
                    go_simp
                    try with_reducible rfl
                  try simp only [Act.put, List.setIfInBounds_toArray, List.set_cons_zero, List.set_cons_succ]
                  refine wpAnyH_take (i := 4) (v := ?vb1x4) rfl (by kernel_rfl) (by kernel_rfl) (by kernel_rfl) (fun _ _ _ h => h) (Or.inl ⟨by rfl, ?hb1x4⟩) (by assumption) ?rb1x4
                  case hb1x4 =>
                    intro w hSw
                    try dsimp only at hSw
                    go_simp
                    try with_reducible rfl
                  try simp only [Act.put, List.setIfInBounds_toArray, List.set_cons_zero, List.set_cons_succ]
                  refine wpAnyH_take (i := 5) (v := ?vb1x5) rfl (by kernel_rfl) (by kernel_rfl) (by kernel_rfl) (fun _ _ _ h => h) (Or.inl ⟨by rfl, ?hb1x5⟩) (by assumption) ?rb1x5
                  case hb1x5 =>
                    intro w hSw
                    try dsimp only at hSw
                    go_simp
                    try with_reducible rfl
                  try simp only [Act.put, List.setIfInBounds_toArray, List.set_cons_zero, List.set_cons_succ]
                  refine wpAnyH_take (i := 6) (v := ?vb1x6) rfl (by kernel_rfl) (by kernel_rfl) (by kernel_rfl) (fun _ _ _ h => h) (Or.inl ⟨by rfl, ?hb1x6⟩) (by assumption) ?rb1x6
                  case hb1x6 =>
                    intro w hSw
                    try dsimp only at hSw
                    go_simp
                    try with_reducible rfl
                  try simp only [Act.put, List.setIfInBounds_toArray, List.set_cons_zero, List.set_cons_succ]
                  refine wpAnyH_take (i := 7) (v := ?vb1x7) rfl (by kernel_rfl) (by kernel_rfl) (by kernel_rfl) (fun _ _ _ h => h) (Or.inl ⟨by rfl, ?hb1x7⟩) (by assumption) ?rb1x7
                  case hb1x7 =>
                    intro w hSw
                    try dsimp only at hSw
                    go_simp
                    try with_reducible rfl
                  try simp only [Act.put, List.setIfInBounds_toArray, List.set_cons_zero, List.set_cons_succ]
                  refine wpAnyH_take (i := 8) (v := ?vb1x8) rfl (by kernel_rfl) (by kernel_rfl) (by kernel_rfl) (fun _ _ _ h => h) (Or.inl ⟨by rfl, ?hb1x8⟩) (by assumption) ?rb1x8
                  case hb1x8 =>
                    intro w hSw
                    try dsimp only at hSw
                    go_simp
                    try with_reducible rfl
                  try simp only [Act.put, List.setIfInBounds_toArray, List.set_cons_zero, List.set_cons_succ]
                  refine wpAnyH_take (i := 9) (v := ?vb1x9) rfl (by kernel_rfl) (by kernel_rfl) (by kernel_rfl) (fun _ _ _ h => h) (Or.inl ⟨by rfl, ?hb1x9⟩) (by assumption) ?rb1x9
                  case hb1x9 =>
                    intro w hSw
                    try dsimp only at hSw
                    go_simp
                    try with_reducible rfl
                  try simp only [Act.put, List.setIfInBounds_toArray, List.set_cons_zero, List.set_cons_succ]
                  refine wpAnyH_take (i := 10) (v := ?vb1x10) rfl (by kernel_rfl) (by kernel_rfl) (by kernel_rfl) (fun _ _ _ h => h) (Or.inl ⟨by rfl, ?hb1x10⟩) (by assumption) ?rb1x10
                  case hb1x10 =>
                    intro w hSw
                    try dsimp only at hSw
                    go_simp
                    try with_reducible rfl
                  try simp only [Act.put, List.setIfInBounds_toArray, List.set_cons_zero, List.set_cons_succ]
                  refine wpAnyH_take (i := 11) (v := ?vb1x11) rfl (by kernel_rfl) (by kernel_rfl) (by kernel_rfl) (fun _ _ _ h => h) (Or.inl ⟨by rfl, ?hb1x11⟩) (by assumption) ?rb1x11
                  case hb1x11 =>
                    intro w hSw
                    try dsimp only at hSw
                    go_simp
                    try with_reducible rfl
                  try simp only [Act.put, List.setIfInBounds_toArray, List.set_cons_zero, List.set_cons_succ]
                  refine wpAnyH_take (i := 12) (v := ?vb1x12) rfl (by kernel_rfl) (by kernel_rfl) (by kernel_rfl) (fun _ _ _ h => h) (Or.inl ⟨by rfl, ?hb1x12⟩) (by assumption) ?rb1x12
                  case hb1x12 =>
                    intro w hSw
                    try dsimp only at hSw
                    go_simp
                    try with_reducible rfl
                  try simp only [Act.put, List.setIfInBounds_toArray, List.set_cons_zero, List.set_cons_succ]
                  refine wpAnyH_take (i := 13) (v := ?vb1x13) rfl (by kernel_rfl) (by kernel_rfl) (by kernel_rfl) (fun _ _ _ h => h) (Or.inl ⟨by rfl, ?hb1x13⟩) (by assumption) ?rb1x13
                  case hb1x13 =>
                    intro w hSw
                    try dsimp only at hSw
                    go_simp
                    try with_reducible rfl
                  try simp only [Act.put, List.setIfInBounds_toArray, List.set_cons_zero, List.set_cons_succ]
                  refine wpAnyH_take (i := 14) (v := ?vb1x14) rfl (by kernel_rfl) (by kernel_rfl) (by kernel_rfl) (fun _ _ _ h => h) (Or.inl ⟨by rfl, ?hb1x14⟩) (by assumption) ?rb1x14
                  case hb1x14 =>
                    intro w hSw
                    try dsimp only at hSw
                    go_simp
                    try with_reducible rfl
                  try simp only [Act.put, List.setIfInBounds_toArray, List.set_cons_zero, List.set_cons_succ]
                  refine wpAnyH_ready (rs := [1]) (by kernel_rfl) (by simp) ?_
                  refine AllReadyH.cons rfl (fun K hK => ?_) AllReadyH.nil
                  go_simp
                  (with_reducible refine (xint _ _ (by omega) (by omega)).mono ?_)
                  rintro e w1 ⟨A1, cc, rfl, hA1, hA2, hown, hb⟩
                  have hS1 := And.intro (fun (p : Addr) (hp : p.block < w.heap.size) => hb.cell hp) (And.intro (And.intro ((hb.cell (p := ⟨g, 0, none⟩) hgl).trans c0) ((hb.cell (p := ⟨g, 1, none⟩) hgl).trans c1)) (hcv w1 (fun p hp => hb.cell hp)))
                  have hcv1 := run_conv_reads (P := Try.prog) w1 31 9 5 (c := cc) Try.underlying31 Try.underlying5 Try.underlying9 (Reads.of_own hown)
                  obtain ⟨hgl', c0', c1', c2', c3', f0', f1', f2', f3'⟩ := ((h.drewN (q + 1)).below hb).blk.four
                  go_simp
                  refine hK.out _ _ hS1 (fun hHeld => ?_)
                  clear hK K
                  try simp only [Act.put, List.setIfInBounds_toArray, List.set_cons_zero, List.set_cons_succ]
                  refine wpAnyH_ready (rs := [2]) (by kernel_rfl) (by simp) ?_
                  refine AllReadyH.cons rfl (fun K hK => ?_) AllReadyH.nil
                  go_simp
                  refine hK.out _ _ hS1 (fun hHeld => ?_)
                  clear hK K
                  try simp only [Act.put, List.setIfInBounds_toArray, List.set_cons_zero, List.set_cons_succ]
                  refine wpAnyH_ready (rs := [15]) (by kernel_rfl) (by simp) ?_
                  refine AllReadyH.cons rfl (fun K hK => ?_) AllReadyH.nil
                  go_simp
                  refine hK.out _ _ hS1 (fun hHeld => ?_)
                  clear hK K
                  try simp only [Act.put, List.setIfInBounds_toArray, List.set_cons_zero, List.set_cons_succ]
                  refine wpAnyH_done (by kernel_rfl) ?_ _
                  clear hS1 hHeld
                  go_wp2_with ((with_reducible refine (xstop g _ _ _ _ _ _ _ _ ((h.drewN (q + 1)).below hb)).mono ?_); rintro e w2 ⟨rfl, hr2, hg2⟩)
                  go_ret
                  rw [HS.out, if_neg (by rw [hgd]; decide)]
                  exact ⟨rfl, hr2, ((grown_drewN (World.grownBy.refl _ _) _).trans (hb.grownBy' (some g))).trans hg2⟩
                · have hb7 : (encI ((V : Int) / 2) == bs) = true := by rw [← HK.out, (xval_good HG.out hgd).1]; simp
                  refine wp_region_held_drew (S := fun w' => (∀ p : Addr, p.block < w.heap.size → w'.cell? p = w.cell? p) ∧ (w'.cell? ⟨g, 0, none⟩ = some (.slice (some ad) n c) ∧ w'.cell? ⟨g, 1, none⟩ = some (.int .i64 (s.at_ : Int))) ∧ (convert 31 9 (.slice (some (ad.add s.at_)) (k + 1 - s.at_) (c - s.at_))).run Try.prog w' = .ok (.string ⟨bs.toArray⟩) w')
                    (by kernel_rfl) ⟨fun p hp => rfl, ⟨c0, c1⟩, hcv _ (fun p hp => rfl)⟩ (fun hHeld => ?_)
                  refine wpAnyH_take (i := 0) (v := ?vg1x0) rfl (by kernel_rfl) (by kernel_rfl) (by kernel_rfl) (fun _ _ _ h => h) (Or.inl ⟨by rfl, ?hg1x0⟩) (by assumption) ?rg1x0
                  case hg1x0 =>
                    intro w hSw
                    try dsimp only at hSw
                    go_simp
                    try with_reducible rfl
                  try simp only [Act.put, List.setIfInBounds_toArray, List.set_cons_zero, List.set_cons_succ]
                  refine wpAnyH_take (i := 3) (v := ?vg1x3) rfl (by kernel_rfl) (by kernel_rfl) (by kernel_rfl) (fun _ _ _ h => h) (Or.inl ⟨by rfl, ?hg1x3⟩) (by assumption) ?rg1x3
                  case hg1x3 =>
                    intro w hSw
                    try dsimp only at hSw
                    go_simp
                    try with_reducible rfl
                  try simp only [Act.put, List.setIfInBounds_toArray, List.set_cons_zero, List.set_cons_succ]
                  refine wpAnyH_take (i := 4) (v := ?vg1x4) rfl (by kernel_rfl) (by kernel_rfl) (by kernel_rfl) (fun _ _ _ h => h) (Or.inl ⟨by rfl, ?hg1x4⟩) (by assumption) ?rg1x4
                  case hg1x4 =>
                    intro w hSw
                    try dsimp only at hSw
                    go_simp
                    try with_reducible rfl
                  try simp only [Act.put, List.setIfInBounds_toArray, List.set_cons_zero, List.set_cons_succ]
                  refine wpAnyH_take (i := 5) (v := ?vg1x5) rfl (by kernel_rfl) (by kernel_rfl) (by kernel_rfl) (fun _ _ _ h => h) (Or.inl ⟨by rfl, ?hg1x5⟩) (by assumption) ?rg1x5
                  case hg1x5 =>
                    intro w hSw
                    try dsimp only at hSw
                    go_simp
                    try with_reducible rfl
                  try simp only [Act.put, List.setIfInBounds_toArray, List.set_cons_zero, List.set_cons_succ]
                  refine wpAnyH_take (i := 6) (v := ?vg1x6) rfl (by kernel_rfl) (by kernel_rfl) (by kernel_rfl) (fun _ _ _ h => h) (Or.inl ⟨by rfl, ?hg1x6⟩) (by assumption) ?rg1x6
                  case hg1x6 =>
                    intro w hSw
                    try dsimp only at hSw
                    go_simp
                    try with_reducible rfl
                  try simp only [Act.put, List.setIfInBounds_toArray, List.set_cons_zero, List.set_cons_succ]
                  refine wpAnyH_take (i := 7) (v := ?vg1x7) rfl (by kernel_rfl) (by kernel_rfl) (by kernel_rfl) (fun _ _ _ h => h) (Or.inl ⟨by rfl, ?hg1x7⟩) (by assumption) ?rg1x7
                  case hg1x7 =>
                    intro w hSw
                    try dsimp only at hSw
                    go_simp
                    try with_reducible rfl
                  try simp only [Act.put, List.setIfInBounds_toArray, List.set_cons_zero, List.set_cons_succ]
                  refine wpAnyH_take (i := 8) (v := ?vg1x8) rfl (by kernel_rfl) (by kernel_rfl) (by kernel_rfl) (fun _ _ _ h => h) (Or.inl ⟨by rfl, ?hg1x8⟩) (by assumption) ?rg1x8
                  case hg1x8 =>
                    intro w hSw
                    try dsimp only at hSw
                    go_simp
                    try with_reducible rfl
                  try simp only [Act.put, List.setIfInBounds_toArray, List.set_cons_zero, List.set_cons_succ]
                  refine wpAnyH_take (i := 9) (v := ?vg1x9) rfl (by kernel_rfl) (by kernel_rfl) (by kernel_rfl) (fun _ _ _ h => h) (Or.inl ⟨by rfl, ?hg1x9⟩) (by assumption) ?rg1x9
                  case hg1x9 =>
                    intro w hSw
                    try dsimp only at hSw
                    go_simp
                    try with_reducible rfl
                  try simp only [Act.put, List.setIfInBounds_toArray, List.set_cons_zero, List.set_cons_succ]
                  refine wpAnyH_take (i := 10) (v := ?vg1x10) rfl (by kernel_rfl) (by kernel_rfl) (by kernel_rfl) (fun _ _ _ h => h) (Or.inl ⟨by rfl, ?hg1x10⟩) (by assumption) ?rg1x10
                  case hg1x10 =>
                    intro w hSw
                    try dsimp only at hSw
                    go_simp
                    try with_reducible rfl
                  try simp only [Act.put, List.setIfInBounds_toArray, List.set_cons_zero, List.set_cons_succ]
                  refine wpAnyH_take (i := 11) (v := ?vg1x11) rfl (by kernel_rfl) (by kernel_rfl) (by kernel_rfl) (fun _ _ _ h => h) (Or.inl ⟨by rfl, ?hg1x11⟩) (by assumption) ?rg1x11
                  case hg1x11 =>
                    intro w hSw
                    try dsimp only at hSw
                    go_simp
                    try with_reducible rfl
                  try simp only [Act.put, List.setIfInBounds_toArray, List.set_cons_zero, List.set_cons_succ]
                  refine wpAnyH_take (i := 12) (v := ?vg1x12) rfl (by kernel_rfl) (by kernel_rfl) (by kernel_rfl) (fun _ _ _ h => h) (Or.inl ⟨by rfl, ?hg1x12⟩) (by assumption) ?rg1x12
                  case hg1x12 =>
                    intro w hSw
                    try dsimp only at hSw
                    go_simp
                    try with_reducible rfl
                  try simp only [Act.put, List.setIfInBounds_toArray, List.set_cons_zero, List.set_cons_succ]
                  refine wpAnyH_take (i := 13) (v := ?vg1x13) rfl (by kernel_rfl) (by kernel_rfl) (by kernel_rfl) (fun _ _ _ h => h) (Or.inl ⟨by rfl, ?hg1x13⟩) (by assumption) ?rg1x13
                  case hg1x13 =>
                    intro w hSw
                    try dsimp only at hSw
                    go_simp
                    try with_reducible rfl
                  try simp only [Act.put, List.setIfInBounds_toArray, List.set_cons_zero, List.set_cons_succ]
                  refine wpAnyH_take (i := 14) (v := ?vg1x14) rfl (by kernel_rfl) (by kernel_rfl) (by kernel_rfl) (fun _ _ _ h => h) (Or.inl ⟨by rfl, ?hg1x14⟩) (by assumption) ?rg1x14
                  case hg1x14 =>
                    intro w hSw
                    try dsimp only at hSw
                    go_simp
                    try with_reducible rfl
                  try simp only [Act.put, List.setIfInBounds_toArray, List.set_cons_zero, List.set_cons_succ]
                  refine wpAnyH_ready (rs := [1]) (by kernel_rfl) (by simp) ?_
                  refine AllReadyH.cons rfl (fun K hK => ?_) AllReadyH.nil
                  go_simp
                  (with_reducible refine (xint _ _ (by omega) (by omega)).mono ?_)
                  rintro e w1 ⟨A1, cc, rfl, hA1, hA2, hown, hb⟩
                  have hS1 := And.intro (fun (p : Addr) (hp : p.block < w.heap.size) => hb.cell hp) (And.intro (And.intro ((hb.cell (p := ⟨g, 0, none⟩) hgl).trans c0) ((hb.cell (p := ⟨g, 1, none⟩) hgl).trans c1)) (hcv w1 (fun p hp => hb.cell hp)))
                  have hcv1 := run_conv_reads (P := Try.prog) w1 31 9 5 (c := cc) Try.underlying31 Try.underlying5 Try.underlying9 (Reads.of_own hown)
                  obtain ⟨hgl', c0', c1', c2', c3', f0', f1', f2', f3'⟩ := ((h.drewN (q + 1)).below hb).blk.four
                  go_simp
                  refine hK.out _ _ hS1 (fun hHeld => ?_)
                  clear hK K
                  try simp only [Act.put, List.setIfInBounds_toArray, List.set_cons_zero, List.set_cons_succ]
                  refine wpAnyH_ready (rs := [2]) (by kernel_rfl) (by simp) ?_
                  refine AllReadyH.cons rfl (fun K hK => ?_) AllReadyH.nil
                  go_simp
                  refine hK.out _ _ hS1 (fun hHeld => ?_)
                  clear hK K
                  try simp only [Act.put, List.setIfInBounds_toArray, List.set_cons_zero, List.set_cons_succ]
                  refine wpAnyH_ready (rs := [15]) (by kernel_rfl) (by simp) ?_
                  refine AllReadyH.cons rfl (fun K hK => ?_) AllReadyH.nil
                  go_simp
                  refine hK.out _ _ hS1 (fun hHeld => ?_)
                  clear hK K
                  try simp only [Act.put, List.setIfInBounds_toArray, List.set_cons_zero, List.set_cons_succ]
                  refine wpAnyH_done (by kernel_rfl) ?_ _
                  clear hS1 hHeld
                  go_wp2
                  go_ret
                  rw [HS.out, if_pos hgd]
                  have hr1 := ((h.drewN (q + 1)).below hb).moved (k := k + 1) (by omega)
                  rw [Int.natCast_add] at hr1
                  exact ⟨ret_int (by rw [← (xval_good HG.out hgd).2, HK.out]), hr1, ((grown_drewN (World.grownBy.refl _ _) _).trans (hb.grownBy' (some g))).trans (grown_set _ _ _ _)⟩
              · have hs4 : ((V : Int) % 2 == 1) = true := by simp; omega
                have HK : RowKit.Hid (unzig (xval bs) = -((V : Int) / 2) - 1) := by rw [HV.out]; unfold unzig; rw [if_neg hodd]; show _ = _; omega
                clear hodd
                go_wp2
                have hA' := h.reads.window (l := s.at_) (h := k + 1) (by omega) (by omega)
                rw [bytesV_drop, HB.out] at hA'
                have hne : ¬ c = s.at_ := by omega
                have hkc : (k : Int) + 1 ≤ (c : Int) := by omega
                have hk0 : (0 : Int) ≤ (k : Int) + 1 := by omega
                have hsk : s.at_ ≤ k + 1 := by omega
                have hcv : ∀ w' : World, (∀ p : Addr, p.block < w.heap.size → w'.cell? p = w.cell? p) → (convert 31 9 (.slice (some (ad.add s.at_)) (k + 1 - s.at_) (c - s.at_))).run Try.prog w' = .ok (.string ⟨bs.toArray⟩) w' :=
                  fun w' hk => run_conv_reads _ _ _ _ Try.underlying31 Try.underlying5 Try.underlying9 (hA'.keep hk)
                have hwr : IntKind.i64.wrap ((k : Int) + 1) = (k : Int) + 1 := by rw [IntKind.wrap_i64]; omega
                clear hA'
                cases hgd : good bs
                · have hb7 : (encI (-((V : Int) / 2) - 1) == bs) = false := by rw [← HK.out]; simp; exact xval_bad hgd
                  refine wp_region_held_drew (S := fun w' => (∀ p : Addr, p.block < w.heap.size → w'.cell? p = w.cell? p) ∧ (w'.cell? ⟨g, 0, none⟩ = some (.slice (some ad) n c) ∧ w'.cell? ⟨g, 1, none⟩ = some (.int .i64 (s.at_ : Int))) ∧ (convert 31 9 (.slice (some (ad.add s.at_)) (k + 1 - s.at_) (c - s.at_))).run Try.prog w' = .ok (.string ⟨bs.toArray⟩) w')
                    (by kernel_rfl) ⟨fun p hp => rfl, ⟨c0, c1⟩, hcv _ (fun p hp => rfl)⟩ (fun hHeld => ?_)
                  refine wpAnyH_take (i := 0) (v := ?vb2x0) rfl (by kernel_rfl) (by kernel_rfl) (by kernel_rfl) (fun _ _ _ h => h) (Or.inl ⟨by rfl, ?hb2x0⟩) (by assumption) ?rb2x0
                  case hb2x0 =>
                    intro w hSw
                    try dsimp only at hSw
                    go_simp
                    try with_reducible rfl
                  try simp only [Act.put, List.setIfInBounds_toArray, List.set_cons_zero, List.set_cons_succ]
                  refine wpAnyH_take (i := 3) (v := ?vb2x3) rfl (by kernel_rfl) (by kernel_rfl) (by kernel_rfl) (fun _ _ _ h => h) (Or.inl ⟨by rfl, ?hb2x3⟩) (by assumption) ?rb2x3
                  case hb2x3 =>
                    intro w hSw
                    try dsimp only at hSw
                    go_simp
                    try with_reducible rfl
                  try simp only [Act.put, List.setIfInBounds_toArray, List.set_cons_zero, List.set_cons_succ]
                  refine wpAnyH_take (i := 4) (v := ?vb2x4) rfl (by kernel_rfl) (by kernel_rfl) (by kernel_rfl) (fun _ _ _ h => h) (Or.inl ⟨by rfl, ?hb2x4⟩) (by assumption) ?rb2x4
                  case hb2x4 =>
                    intro w hSw
                    try dsimp only at hSw
                    go_simp
                    try with_reducible rfl
                  try simp only [Act.put, List.setIfInBounds_toArray, List.set_cons_zero, List.set_cons_succ]
                  refine wpAnyH_take (i := 5) (v := ?vb2x5) rfl (by kernel_rfl) (by kernel_rfl) (by kernel_rfl) (fun _ _ _ h => h) (Or.inl ⟨by rfl, ?hb2x5⟩) (by assumption) ?rb2x5
                  case hb2x5 =>
                    intro w hSw
                    try dsimp only at hSw
                    go_simp
                    try with_reducible rfl
                  try simp only [Act.put, List.setIfInBounds_toArray, List.set_cons_zero, List.set_cons_succ]
                  refine wpAnyH_take (i := 6) (v := ?vb2x6) rfl (by kernel_rfl) (by kernel_rfl) (by kernel_rfl) (fun _ _ _ h => h) (Or.inl ⟨by rfl, ?hb2x6⟩) (by assumption) ?rb2x6
                  case hb2x6 =>
                    intro w hSw
                    try dsimp only at hSw
                    go_simp
                    try with_reducible rfl
                  try simp only [Act.put, List.setIfInBounds_toArray, List.set_cons_zero, List.set_cons_succ]
                  refine wpAnyH_take (i := 7) (v := ?vb2x7) rfl (by kernel_rfl) (by kernel_rfl) (by kernel_rfl) (fun _ _ _ h => h) (Or.inl ⟨by rfl, ?hb2x7⟩) (by assumption) ?rb2x7
                  case hb2x7 =>
                    intro w hSw
                    try dsimp only at hSw
                    go_simp
                    try with_reducible rfl
                  try simp only [Act.put, List.setIfInBounds_toArray, List.set_cons_zero, List.set_cons_succ]
                  refine wpAnyH_take (i := 8) (v := ?vb2x8) rfl (by kernel_rfl) (by kernel_rfl) (by kernel_rfl) (fun _ _ _ h => h) (Or.inl ⟨by rfl, ?hb2x8⟩) (by assumption) ?rb2x8
                  case hb2x8 =>
                    intro w hSw
                    try dsimp only at hSw
                    go_simp
                    try with_reducible rfl
                  try simp only [Act.put, List.setIfInBounds_toArray, List.set_cons_zero, List.set_cons_succ]
                  refine wpAnyH_take (i := 9) (v := ?vb2x9) rfl (by kernel_rfl) (by kernel_rfl) (by kernel_rfl) (fun _ _ _ h => h) (Or.inl ⟨by rfl, ?hb2x9⟩) (by assumption) ?rb2x9
                  case hb2x9 =>
                    intro w hSw
                    try dsimp only at hSw
                    go_simp
                    try with_reducible rfl
                  try simp only [Act.put, List.setIfInBounds_toArray, List.set_cons_zero, List.set_cons_succ]
                  refine wpAnyH_take (i := 10) (v := ?vb2x10) rfl (by kernel_rfl) (by kernel_rfl) (by kernel_rfl) (fun _ _ _ h => h) (Or.inl ⟨by rfl, ?hb2x10⟩) (by assumption) ?rb2x10
                  case hb2x10 =>
                    intro w hSw
                    try dsimp only at hSw
                    go_simp
                    try with_reducible rfl
                  try simp only [Act.put, List.setIfInBounds_toArray, List.set_cons_zero, List.set_cons_succ]
                  refine wpAnyH_take (i := 11) (v := ?vb2x11) rfl (by kernel_rfl) (by kernel_rfl) (by kernel_rfl) (fun _ _ _ h => h) (Or.inl ⟨by rfl, ?hb2x11⟩) (by assumption) ?rb2x11
                  case hb2x11 =>
                    intro w hSw
                    try dsimp only at hSw
                    go_simp
                    try with_reducible rfl
                  try simp only [Act.put, List.setIfInBounds_toArray, List.set_cons_zero, List.set_cons_succ]
                  refine wpAnyH_take (i := 12) (v := ?vb2x12) rfl (by kernel_rfl) (by kernel_rfl) (by kernel_rfl) (fun _ _ _ h => h) (Or.inl ⟨by rfl, ?hb2x12⟩) (by assumption) ?rb2x12
                  case hb2x12 =>
                    intro w hSw
                    try dsimp only at hSw
                    go_simp
                    try with_reducible rfl
                  try simp only [Act.put, List.setIfInBounds_toArray, List.set_cons_zero, List.set_cons_succ]
                  refine wpAnyH_take (i := 13) (v := ?vb2x13) rfl (by kernel_rfl) (by kernel_rfl) (by kernel_rfl) (fun _ _ _ h => h) (Or.inl ⟨by rfl, ?hb2x13⟩) (by assumption) ?rb2x13
                  case hb2x13 =>
                    intro w hSw
                    try dsimp only at hSw
                    go_simp
                    try with_reducible rfl
                  try simp only [Act.put, List.setIfInBounds_toArray, List.set_cons_zero, List.set_cons_succ]
                  refine wpAnyH_take (i := 14) (v := ?vb2x14) rfl (by kernel_rfl) (by kernel_rfl) (by kernel_rfl) (fun _ _ _ h => h) (Or.inl ⟨by rfl, ?hb2x14⟩) (by assumption) ?rb2x14
                  case hb2x14 =>
                    intro w hSw
                    try dsimp only at hSw
                    go_simp
                    try with_reducible rfl
                  try simp only [Act.put, List.setIfInBounds_toArray, List.set_cons_zero, List.set_cons_succ]
                  refine wpAnyH_ready (rs := [1]) (by kernel_rfl) (by simp) ?_
                  refine AllReadyH.cons rfl (fun K hK => ?_) AllReadyH.nil
                  go_simp
                  (with_reducible refine (xint _ _ (by omega) (by omega)).mono ?_)
                  rintro e w1 ⟨A1, cc, rfl, hA1, hA2, hown, hb⟩
                  have hS1 := And.intro (fun (p : Addr) (hp : p.block < w.heap.size) => hb.cell hp) (And.intro (And.intro ((hb.cell (p := ⟨g, 0, none⟩) hgl).trans c0) ((hb.cell (p := ⟨g, 1, none⟩) hgl).trans c1)) (hcv w1 (fun p hp => hb.cell hp)))
                  have hcv1 := run_conv_reads (P := Try.prog) w1 31 9 5 (c := cc) Try.underlying31 Try.underlying5 Try.underlying9 (Reads.of_own hown)
                  obtain ⟨hgl', c0', c1', c2', c3', f0', f1', f2', f3'⟩ := ((h.drewN (q + 1)).below hb).blk.four
                  go_simp
                  refine hK.out _ _ hS1 (fun hHeld => ?_)
                  clear hK K
                  try simp only [Act.put, List.setIfInBounds_toArray, List.set_cons_zero, List.set_cons_succ]
                  refine wpAnyH_ready (rs := [2]) (by kernel_rfl) (by simp) ?_
                  refine AllReadyH.cons rfl (fun K hK => ?_) AllReadyH.nil
                  go_simp
                  refine hK.out _ _ hS1 (fun hHeld => ?_)
                  clear hK K
                  try simp only [Act.put, List.setIfInBounds_toArray, List.set_cons_zero, List.set_cons_succ]
                  refine wpAnyH_ready (rs := [15]) (by kernel_rfl) (by simp) ?_
                  refine AllReadyH.cons rfl (fun K hK => ?_) AllReadyH.nil
                  go_simp
                  refine hK.out _ _ hS1 (fun hHeld => ?_)
                  clear hK K
                  try simp only [Act.put, List.setIfInBounds_toArray, List.set_cons_zero, List.set_cons_succ]
                  refine wpAnyH_done (by kernel_rfl) ?_ _
                  clear hS1 hHeld
                  go_wp2_with ((with_reducible refine (xstop g _ _ _ _ _ _ _ _ ((h.drewN (q + 1)).below hb)).mono ?_); rintro e w2 ⟨rfl, hr2, hg2⟩)
                  go_ret
                  rw [HS.out, if_neg (by rw [hgd]; decide)]
                  exact ⟨rfl, hr2, ((grown_drewN (World.grownBy.refl _ _) _).trans (hb.grownBy' (some g))).trans hg2⟩
                · have hb7 : (encI (-((V : Int) / 2) - 1) == bs) = true := by rw [← HK.out, (xval_good HG.out hgd).1]; simp
                  refine wp_region_held_drew (S := fun w' => (∀ p : Addr, p.block < w.heap.size → w'.cell? p = w.cell? p) ∧ (w'.cell? ⟨g, 0, none⟩ = some (.slice (some ad) n c) ∧ w'.cell? ⟨g, 1, none⟩ = some (.int .i64 (s.at_ : Int))) ∧ (convert 31 9 (.slice (some (ad.add s.at_)) (k + 1 - s.at_) (c - s.at_))).run Try.prog w' = .ok (.string ⟨bs.toArray⟩) w')
                    (by kernel_rfl) ⟨fun p hp => rfl, ⟨c0, c1⟩, hcv _ (fun p hp => rfl)⟩ (fun hHeld => ?_)
                  refine wpAnyH_take (i := 0) (v := ?vg2x0) rfl (by kernel_rfl) (by kernel_rfl) (by kernel_rfl) (fun _ _ _ h => h) (Or.inl ⟨by rfl, ?hg2x0⟩) (by assumption) ?rg2x0
                  case hg2x0 =>
                    intro w hSw
                    try dsimp only at hSw
                    go_simp
                    try with_reducible rfl
                  try simp only [Act.put, List.setIfInBounds_toArray, List.set_cons_zero, List.set_cons_succ]
                  refine wpAnyH_take (i := 3) (v := ?vg2x3) rfl (by kernel_rfl) (by kernel_rfl) (by kernel_rfl) (fun _ _ _ h => h) (Or.inl ⟨by rfl, ?hg2x3⟩) (by assumption) ?rg2x3
                  case hg2x3 =>
                    intro w hSw
                    try dsimp only at hSw
                    go_simp
                    try with_reducible rfl
                  try simp only [Act.put, List.setIfInBounds_toArray, List.set_cons_zero, List.set_cons_succ]
                  refine wpAnyH_take (i := 4) (v := ?vg2x4) rfl (by kernel_rfl) (by kernel_rfl) (by kernel_rfl) (fun _ _ _ h => h) (Or.inl ⟨by rfl, ?hg2x4⟩) (by assumption) ?rg2x4
                  case hg2x4 =>
                    intro w hSw
                    try dsimp only at hSw
                    go_simp
                    try with_reducible rfl
                  try simp only [Act.put, List.setIfInBounds_toArray, List.set_cons_zero, List.set_cons_succ]
                  refine wpAnyH_take (i := 5) (v := ?vg2x5) rfl (by kernel_rfl) (by kernel_rfl) (by kernel_rfl) (fun _ _ _ h => h) (Or.inl ⟨by rfl, ?hg2x5⟩) (by assumption) ?rg2x5
                  case hg2x5 =>
                    intro w hSw
                    try dsimp only at hSw
                    go_simp
                    try with_reducible rfl
                  try simp only [Act.put, List.setIfInBounds_toArray, List.set_cons_zero, List.set_cons_succ]
                  refine wpAnyH_take (i := 6) (v := ?vg2x6) rfl (by kernel_rfl) (by kernel_rfl) (by kernel_rfl) (fun _ _ _ h => h) (Or.inl ⟨by rfl, ?hg2x6⟩) (by assumption) ?rg2x6
                  case hg2x6 =>
                    intro w hSw
                    try dsimp only at hSw
                    go_simp
                    try with_reducible rfl
                  try simp only [Act.put, List.setIfInBounds_toArray, List.set_cons_zero, List.set_cons_succ]
                  refine wpAnyH_take (i := 7) (v := ?vg2x7) rfl (by kernel_rfl) (by kernel_rfl) (by kernel_rfl) (fun _ _ _ h => h) (Or.inl ⟨by rfl, ?hg2x7⟩) (by assumption) ?rg2x7
                  case hg2x7 =>
                    intro w hSw
                    try dsimp only at hSw
                    go_simp
                    try with_reducible rfl
                  try simp only [Act.put, List.setIfInBounds_toArray, List.set_cons_zero, List.set_cons_succ]
                  refine wpAnyH_take (i := 8) (v := ?vg2x8) rfl (by kernel_rfl) (by kernel_rfl) (by kernel_rfl) (fun _ _ _ h => h) (Or.inl ⟨by rfl, ?hg2x8⟩) (by assumption) ?rg2x8
                  case hg2x8 =>
                    intro w hSw
                    try dsimp only at hSw
                    go_simp
                    try with_reducible rfl
                  try simp only [Act.put, List.setIfInBounds_toArray, List.set_cons_zero, List.set_cons_succ]
                  refine wpAnyH_take (i := 9) (v := ?vg2x9) rfl (by kernel_rfl) (by kernel_rfl) (by kernel_rfl) (fun _ _ _ h => h) (Or.inl ⟨by rfl, ?hg2x9⟩) (by assumption) ?rg2x9
                  case hg2x9 =>
                    intro w hSw
                    try dsimp only at hSw
                    go_simp
                    try with_reducible rfl
                  try simp only [Act.put, List.setIfInBounds_toArray, List.set_cons_zero, List.set_cons_succ]
                  refine wpAnyH_take (i := 10) (v := ?vg2x10) rfl (by kernel_rfl) (by kernel_rfl) (by kernel_rfl) (fun _ _ _ h => h) (Or.inl ⟨by rfl, ?hg2x10⟩) (by assumption) ?rg2x10
                  case hg2x10 =>
                    intro w hSw
                    try dsimp only at hSw
                    go_simp
                    try with_reducible rfl
                  try simp only [Act.put, List.setIfInBounds_toArray, List.set_cons_zero, List.set_cons_succ]
                  refine wpAnyH_take (i := 11) (v := ?vg2x11) rfl (by kernel_rfl) (by kernel_rfl) (by kernel_rfl) (fun _ _ _ h => h) (Or.inl ⟨by rfl, ?hg2x11⟩) (by assumption) ?rg2x11
                  case hg2x11 =>
                    intro w hSw
                    try dsimp only at hSw
                    go_simp
                    try with_reducible rfl
                  try simp only [Act.put, List.setIfInBounds_toArray, List.set_cons_zero, List.set_cons_succ]
                  refine wpAnyH_take (i := 12) (v := ?vg2x12) rfl (by kernel_rfl) (by kernel_rfl) (by kernel_rfl) (fun _ _ _ h => h) (Or.inl ⟨by rfl, ?hg2x12⟩) (by assumption) ?rg2x12
                  case hg2x12 =>
                    intro w hSw
                    try dsimp only at hSw
                    go_simp
                    try with_reducible rfl
                  try simp only [Act.put, List.setIfInBounds_toArray, List.set_cons_zero, List.set_cons_succ]
                  refine wpAnyH_take (i := 13) (v := ?vg2x13) rfl (by kernel_rfl) (by kernel_rfl) (by kernel_rfl) (fun _ _ _ h => h) (Or.inl ⟨by rfl, ?hg2x13⟩) (by assumption) ?rg2x13
                  case hg2x13 =>
                    intro w hSw
                    try dsimp only at hSw
                    go_simp
                    try with_reducible rfl
                  try simp only [Act.put, List.setIfInBounds_toArray, List.set_cons_zero, List.set_cons_succ]
                  refine wpAnyH_take (i := 14) (v := ?vg2x14) rfl (by kernel_rfl) (by kernel_rfl) (by kernel_rfl) (fun _ _ _ h => h) (Or.inl ⟨by rfl, ?hg2x14⟩) (by assumption) ?rg2x14
                  case hg2x14 =>
                    intro w hSw
                    try dsimp only at hSw
                    go_simp
                    try with_reducible rfl
                  try simp only [Act.put, List.setIfInBounds_toArray, List.set_cons_zero, List.set_cons_succ]
                  refine wpAnyH_ready (rs := [1]) (by kernel_rfl) (by simp) ?_
                  refine AllReadyH.cons rfl (fun K hK => ?_) AllReadyH.nil
                  go_simp
                  (with_reducible refine (xint _ _ (by omega) (by omega)).mono ?_)
                  rintro e w1 ⟨A1, cc, rfl, hA1, hA2, hown, hb⟩
                  have hS1 := And.intro (fun (p : Addr) (hp : p.block < w.heap.size) => hb.cell hp) (And.intro (And.intro ((hb.cell (p := ⟨g, 0, none⟩) hgl).trans c0) ((hb.cell (p := ⟨g, 1, none⟩) hgl).trans c1)) (hcv w1 (fun p hp => hb.cell hp)))
                  have hcv1 := run_conv_reads (P := Try.prog) w1 31 9 5 (c := cc) Try.underlying31 Try.underlying5 Try.underlying9 (Reads.of_own hown)
                  obtain ⟨hgl', c0', c1', c2', c3', f0', f1', f2', f3'⟩ := ((h.drewN (q + 1)).below hb).blk.four
                  go_simp
                  refine hK.out _ _ hS1 (fun hHeld => ?_)
                  clear hK K
                  try simp only [Act.put, List.setIfInBounds_toArray, List.set_cons_zero, List.set_cons_succ]
                  refine wpAnyH_ready (rs := [2]) (by kernel_rfl) (by simp) ?_
                  refine AllReadyH.cons rfl (fun K hK => ?_) AllReadyH.nil
                  go_simp
                  refine hK.out _ _ hS1 (fun hHeld => ?_)
                  clear hK K
                  try simp only [Act.put, List.setIfInBounds_toArray, List.set_cons_zero, List.set_cons_succ]
                  refine wpAnyH_ready (rs := [15]) (by kernel_rfl) (by simp) ?_
                  refine AllReadyH.cons rfl (fun K hK => ?_) AllReadyH.nil
                  go_simp
                  refine hK.out _ _ hS1 (fun hHeld => ?_)
                  clear hK K
                  try simp only [Act.put, List.setIfInBounds_toArray, List.set_cons_zero, List.set_cons_succ]
                  refine wpAnyH_done (by kernel_rfl) ?_ _
                  clear hS1 hHeld
                  go_wp2
                  go_ret
                  rw [HS.out, if_pos hgd]
                  have hr1 := ((h.drewN (q + 1)).below hb).moved (k := k + 1) (by omega)
                  rw [Int.natCast_add] at hr1
                  exact ⟨ret_int (by rw [← (xval_good HG.out hgd).2, HK.out]), hr1, ((grown_drewN (World.grownBy.refl _ _) _).trans (hb.grownBy' (some g))).trans (grown_set _ _ _ _)⟩
            · clear hu2
              obtain rfl := hu1 h10
              clear hu1
              have e1 : (s.at_ : Int) + ((j' + 1 : Nat) : Int) - 1 = (s.at_ : Int) + (j' : Int) := by omega
              rw [e1]
              have hlt2 : s.at_ + j' < n := by omega
              obtain ⟨ad', y, ead, hadl', hy, hcell'⟩ := h.cell hlt2
              obtain rfl : ad = ad' := Option.some.inj ead
              have hyl := y.toNat_lt
              have hin : (s.at_ : Int) + (j' : Int) < (n : Int) := by omega
              have hb6 : decide ((k : Int) - (s.at_ : Int) < 10) = true := by simp; omega
              have hbj : bs[j']? = some y := by rw [hbx j' (by omega)]; exact hy
              have hdr : bs.drop j' = y :: bs.drop (j' + 1) := by
                have hl2 := (List.getElem?_eq_some_iff.1 hbj).1
                rw [List.drop_eq_getElem_cons hl2, (List.getElem?_eq_some_iff.1 hbj).2]
              have HD := Lib.hid hdr
              have hand : bits .and .u8 (y.toNat : Int) 127 = (y.toNat : Int) % 128 := by rw [and_low]; omega
              generalize hV : val (bs.drop (j' + 1)) % 18446744073709551616 = V at *
              have HV := Lib.hid hV
              clear hy hbj hdr hbx hcell e1 ead hV
              go_wp2
              go_roundw
              case rel =>
                refine ⟨j', q, rfl, by omega, rfl, fun _ => ?_, fun h => by omega⟩
                rw [shl7_or, HD.out, ← HV.out]
                show Value.int .u64 _ = .int .u64 (((y.toNat % 128 + 128 * val (bs.drop (j' + 1))) % 18446744073709551616 : Nat) : Int)
                congr 2
                omega
              case measure => simp [intOf]; omega
      · obtain rfl : k = n := by omega
        have hb3 : decide ((k : Int) < (k : Int)) = false := by simp
        have hd : dec l s.at_ = .short := by
          unfold dec
          rw [(grp_none_iff _).2 (by
            intro c hc
            refine hbig c ?_
            rw [List.take_of_length_le (by rw [List.length_drop]; omega)]
            exact hc)]
        have hs : rInt l s = (0, xFail s 5 l.length) := by unfold rInt; rw [if_neg (by simp [H1.out]), hd, xFail_eq (by omega)]
        have hb5 : ((k : Int) == (k : Int)) = true := by simp
        have HS := Lib.hid hs
        clear hs hd
        go_wp2_with ((with_reducible refine (xstop g _ _ _ _ _ _ _ _ h).mono ?_); rintro e w2 ⟨rfl, hr2, hg2⟩)
        go_ret
        rw [HS.out, hlen]
        exact ⟨rfl, hr2, hg2⟩
  · have hb1 : (s.e != 0) = true := by simp [h1]
    have hs : rInt l s = (0, s) := by unfold rInt; rw [if_pos h1]
    rw [hs]
    clear hs
    go_enter Try.func49, Try.ntmps49
    go_wp2
    go_ret
    exact ⟨rfl, h, World.grownBy.refl _ _⟩
end Go.Proofs.Ytglddefjmnjgdaa
