/- The walks of pairs: keys that rise with values. The program's and the document's. -/
import Derived.Test.YthdmanadhbpogaaGreatCaad
import Derived.Test.YthdmanadhbpogaaGreatCaba
import Derived.Test.YthdmanadhbpogaaGreatCabe
namespace Go.Proofs.YthdmanadhbpogaaGreat
set_option maxHeartbeats 8000000
set_option maxRecDepth 100000
set_option linter.unusedVariables false
open Go.RowKit Fl
attribute [local go_sem] run_store_float
def prsFrom : Option ByteArray → List Wt → Bool
 | _, [] => true
 | p, a :: l => keyB a.key && (match p with | none => true | some q => bl q a.key) && a.v.may && !(a.v.k == 0) && prsFrom (some a.key) l
def prsB (l : List Wt) : Bool := prsFrom none l
theorem prsFrom_drop {l : List Wt} {k : Nat} {a : Wt} (h : l[k]? = some a) :
 prsFrom (aheadW l k) (l.drop k) = (keyB a.key && (match aheadW l k with | none => true | some q => bl q a.key) && a.v.may && !(a.v.k == 0) && prsFrom (aheadW l (k + 1)) (l.drop (k + 1))) := by
 have h1 := List.getElem?_eq_some_iff.1 h
 rw [List.drop_eq_getElem_cons h1.1, h1.2, show aheadW l (k + 1) = some a.key from by show (l[k]?).map (·.key) = _; rw [h]; rfl]
 rfl
def PrsRel (l : List Wt) (w : World) (i : Value) (wr : World) : Prop := ∃ k : Nat, k ≤ l.length ∧ i = .int .i64 (k : Int) ∧ prsFrom (aheadW l k) (l.drop k) = prsFrom none l ∧ Below w.heap.size w wr
theorem prs_any (A : Option Addr) (n c : Nat) (l : List Wt) (w : World) (h : Sl WtRel 4 w w.heap.size A n l) (hn : n ≤ maxLen) :
 Calls Tryz.prog 97 #[.slice A n c] w fun e w' => e = .returned (.bool (prsB l)) ∧ Below w.heap.size w w' := by
 unfold maxLen at hn
 have hl := h.1
 have hge : n ≤ l.length := by omega
 go_enter Tryz.func97, Tryz.ntmps97
 go_wp2
 go_loopw [7] (fun i wr => PrsRel l w i wr) (fun i _ => n - (intOf i).toNat)
 case atStart => exact ⟨0, by omega, rfl, rfl, Below.refl _ _⟩
 case round =>
  obtain ⟨k, hk, rfl, hs, hb⟩ := hrel
  have hzz := hb.size
  by_cases hlt : k < n
  · obtain ⟨ad, a, rfl, ha, hbk, hok, c0, c1, c2, c3⟩ := ((h.below WtRel.kept hb).more WtRel.kept hb.size).wt hlt
    have hka := fun w => key_any a.key w
    have hva := fun w => vmay_any a.v w
    have hd1 : decide ((k : Int) < (n : Int)) = true := by simp; omega
    have hk0 : (0 : Int) ≤ (k : Int) := by omega
    have hk1 : (k : Int) < (n : Int) := by omega
    have lz : wr.heap.size < wr.heap.size + 1 := Nat.lt_succ_self _
    have hbz : (ad.add (k * 4)).block < wr.heap.size + 1 := by omega
    have hbN : Below wr.heap.size wr (wr.alloc (.cells #[.string a.key, .int .i64 a.v.k, .float .f64 a.v.n, .string a.v.t] 61)) := (Below.refl _ _).alloc (Nat.le_refl _) _
    have hbB := Blk.new wr 61 #[.string a.key, .int .i64 a.v.k, .float .f64 a.v.n, .string a.v.t]
    obtain ⟨-, x0, x1, x2, x3⟩ : wr.heap.size < wr.heap.size + 1 ∧ (wr.alloc (.cells #[.string a.key, .int .i64 a.v.k, .float .f64 a.v.n, .string a.v.t] 61)).cell? ⟨wr.heap.size, 0, none⟩ = some (.string a.key) ∧ (wr.alloc (.cells #[.string a.key, .int .i64 a.v.k, .float .f64 a.v.n, .string a.v.t] 61)).cell? ⟨wr.heap.size, 1, none⟩ = some (.int .i64 a.v.k) ∧ (wr.alloc (.cells #[.string a.key, .int .i64 a.v.k, .float .f64 a.v.n, .string a.v.t] 61)).cell? ⟨wr.heap.size, 2, none⟩ = some (.float .f64 a.v.n) ∧ (wr.alloc (.cells #[.string a.key, .int .i64 a.v.k, .float .f64 a.v.n, .string a.v.t] 61)).cell? ⟨wr.heap.size, 3, none⟩ = some (.string a.v.t) := ⟨lz, hbB.cell 0, hbB.cell 1, hbB.cell 2, hbB.cell 3⟩
    have c0' : (wr.alloc (.cells #[.string a.key, .int .i64 a.v.k, .float .f64 a.v.n, .string a.v.t] 61)).cell? (ad.add (k * 4)) = some (.string a.key) := (hbN.cell hbk).trans c0
    clear hbB
    rw [prsFrom_drop ha] at hs
    clear ha
    cases hkb : keyB a.key
    · rw [hkb] at hka hs
      have HF := Lib.hid (show prsB l = false by unfold prsB; rw [← hs]; rfl)
      clear hs hl
      go_upto_region 4 with (refine wpList_store_new rfl 61 _ _ rfl _ rfl rfl _ _ (by kernel_rfl) (by kernel_rfl) (by kernel_rfl) ?_)
      try clear c0 c1 c2 c3
      refine wp_region_held_drew (S := fun w' => w'.cell? ⟨wr.heap.size, 0, none⟩ = some (.string a.key) ∧ w'.cell? ⟨wr.heap.size, 1, none⟩ = some (.int .i64 a.v.k) ∧ w'.cell? ⟨wr.heap.size, 2, none⟩ = some (.float .f64 a.v.n) ∧ w'.cell? ⟨wr.heap.size, 3, none⟩ = some (.string a.v.t)) (by kernel_rfl) ⟨x0, x1, x2, x3⟩ (fun hHeld => ?_)
      refine tt 0 12 (v := ?vap0) rfl ?hap0 hHeld ?rap0
      case hap0 => intro W hSw; go_simp; try with_reducible rfl
      go_frame
      refine tt 1 13 (v := ?vap1) rfl ?hap1 hHeld ?rap1
      case hap1 => intro W hSw; go_simp; try with_reducible rfl
      go_frame
      refine wpAnyH_ready (rs := [2]) (by kernel_rfl) (by simp) ?_
      refine AllReadyH.cons rfl (fun K hK => ?_) AllReadyH.nil
      go_simp
      (with_reducible refine (hka _).mono ?_)
      rintro e w4 ⟨rfl, rfl⟩
      refine hK.out _ _ ⟨x0, x1, x2, x3⟩ (fun hHeld => ?_)
      clear hK K
      try go_frame
      refine tt 3 15 (v := ?vap3) rfl ?hap3 hHeld ?rap3
      case hap3 => intro W hSw; go_simp; try with_reducible rfl
      go_frame
      refine tt 4 16 (v := ?vap4) rfl ?hap4 hHeld ?rap4
      case hap4 => intro W hSw; go_simp; try with_reducible rfl
      go_frame
      refine tu 5 17 rfl hHeld ?_
      go_frame
      refine tu 6 18 rfl hHeld ?_
      go_frame
      refine tu 7 19 rfl hHeld ?_
      go_frame
      refine tu 8 20 rfl hHeld ?_
      go_frame
      refine tu 9 21 rfl hHeld ?_
      go_frame
      refine tu 10 22 rfl hHeld ?_
      go_frame
      refine tu 11 23 rfl hHeld ?_
      go_frame
      refine tu 12 24 rfl hHeld ?_
      go_frame
      refine tu 13 25 rfl hHeld ?_
      go_frame
      refine tu 14 26 rfl hHeld ?_
      go_frame
      refine tu 15 27 rfl hHeld ?_
      go_frame
      refine tu 16 28 rfl hHeld ?_
      go_frame
      refine tu 17 29 rfl hHeld ?_
      go_frame
      refine tt 18 30 (v := ?vap18) rfl ?hap18 hHeld ?rap18
      case hap18 => intro W hSw; go_simp; try with_reducible rfl
      go_frame
      refine tt 19 31 (v := ?vap19) rfl ?hap19 hHeld ?rap19
      case hap19 => intro W hSw; go_simp; try with_reducible rfl
      go_frame
      refine tu 20 32 rfl hHeld ?_
      go_frame
      refine tu 21 33 rfl hHeld ?_
      go_frame
      refine tu 22 34 rfl hHeld ?_
      go_frame
      refine tu 23 35 rfl hHeld ?_
      go_frame
      refine tt 24 36 (v := ?vap24) rfl ?hap24 hHeld ?rap24
      case hap24 => intro W hSw; go_simp; try with_reducible rfl
      go_frame
      refine tt 25 37 (v := ?vap25) rfl ?hap25 hHeld ?rap25
      case hap25 => intro W hSw; go_simp; try with_reducible rfl
      go_frame
      refine tu 26 38 rfl hHeld ?_
      go_frame
      refine tu 27 39 rfl hHeld ?_
      go_frame
      refine tu 28 40 rfl hHeld ?_
      go_frame
      refine tu 29 41 rfl hHeld ?_
      go_frame
      refine tt 30 42 (v := ?vap30) rfl ?hap30 hHeld ?rap30
      case hap30 => intro W hSw; go_simp; try with_reducible rfl
      go_frame
      refine wpAnyH_done (by kernel_rfl) ?_ _
      go_wp2
      go_ret
      rw [HF.out]
      exact ⟨rfl, hb.trans (Below.mono hbN.drew hzz)⟩
    · rw [hkb] at hka hs
      by_cases hz : k = 0
      · have hd2 : decide (0 < k) = false := by simp; omega
        rw [show aheadW l k = none from by rw [hz]; rfl] at hs
        clear hz
        cases hv : a.v.may
        · rw [hv] at hva hs
          have HF := Lib.hid (show prsB l = false by unfold prsB; rw [← hs]; simp)
          clear hs hl hv
          go_upto_region 4 with (refine wpList_store_new rfl 61 _ _ rfl _ rfl rfl _ _ (by kernel_rfl) (by kernel_rfl) (by kernel_rfl) ?_)
          try clear c0 c1 c2 c3
          refine wp_region_held_drew (S := fun w' => w'.cell? ⟨wr.heap.size, 0, none⟩ = some (.string a.key) ∧ w'.cell? ⟨wr.heap.size, 1, none⟩ = some (.int .i64 a.v.k) ∧ w'.cell? ⟨wr.heap.size, 2, none⟩ = some (.float .f64 a.v.n) ∧ w'.cell? ⟨wr.heap.size, 3, none⟩ = some (.string a.v.t)) (by kernel_rfl) ⟨x0, x1, x2, x3⟩ (fun hHeld => ?_)
          refine tt 0 12 (v := ?vbp0) rfl ?hbp0 hHeld ?rbp0
          case hbp0 => intro W hSw; go_simp; try with_reducible rfl
          go_frame
          refine tt 1 13 (v := ?vbp1) rfl ?hbp1 hHeld ?rbp1
          case hbp1 => intro W hSw; go_simp; try with_reducible rfl
          go_frame
          refine wpAnyH_ready (rs := [2]) (by kernel_rfl) (by simp) ?_
          refine AllReadyH.cons rfl (fun K hK => ?_) AllReadyH.nil
          go_simp
          (with_reducible refine (hka _).mono ?_)
          rintro e w4 ⟨rfl, rfl⟩
          refine hK.out _ _ ⟨x0, x1, x2, x3⟩ (fun hHeld => ?_)
          clear hK K
          try go_frame
          refine tt 3 15 (v := ?vbp3) rfl ?hbp3 hHeld ?rbp3
          case hbp3 => intro W hSw; go_simp; try with_reducible rfl
          go_frame
          refine tt 4 16 (v := ?vbp4) rfl ?hbp4 hHeld ?rbp4
          case hbp4 => intro W hSw; go_simp; try with_reducible rfl
          go_frame
          refine tt 5 17 (v := ?vbp5) rfl ?hbp5 hHeld ?rbp5
          case hbp5 => intro W hSw; go_simp; try with_reducible rfl
          go_frame
          refine tt 6 18 (v := ?vbp6) rfl ?hbp6 hHeld ?rbp6
          case hbp6 => intro W hSw; go_simp; try with_reducible rfl
          go_frame
          refine tt 7 19 (v := ?vbp7) rfl ?hbp7 hHeld ?rbp7
          case hbp7 => intro W hSw; go_simp; try with_reducible rfl
          go_frame
          refine tu 8 20 rfl hHeld ?_
          go_frame
          refine tu 9 21 rfl hHeld ?_
          go_frame
          refine tu 10 22 rfl hHeld ?_
          go_frame
          refine tu 11 23 rfl hHeld ?_
          go_frame
          refine tu 12 24 rfl hHeld ?_
          go_frame
          refine tu 13 25 rfl hHeld ?_
          go_frame
          refine tu 14 26 rfl hHeld ?_
          go_frame
          refine tu 15 27 rfl hHeld ?_
          go_frame
          refine tu 16 28 rfl hHeld ?_
          go_frame
          refine tt 17 29 (v := ?vbp17) rfl ?hbp17 hHeld ?rbp17
          case hbp17 => intro W hSw; go_simp; try with_reducible rfl
          go_frame
          refine tt 18 30 (v := ?vbp18) rfl ?hbp18 hHeld ?rbp18
          case hbp18 => intro W hSw; go_simp; try with_reducible rfl
          go_frame
          refine tt 19 31 (v := ?vbp19) rfl ?hbp19 hHeld ?rbp19
          case hbp19 => intro W hSw; go_simp; try with_reducible rfl
          go_frame
          refine tt 20 32 (v := ?vbp20) rfl ?hbp20 hHeld ?rbp20
          case hbp20 => intro W hSw; go_simp; try with_reducible rfl
          go_frame
          refine tt 21 33 (v := ?vbp21) rfl ?hbp21 hHeld ?rbp21
          case hbp21 => intro W hSw; go_simp; try with_reducible rfl
          go_frame
          refine wpAnyH_ready (rs := [22]) (by kernel_rfl) (by simp) ?_
          refine AllReadyH.cons rfl (fun K hK => ?_) AllReadyH.nil
          go_simp
          (with_reducible refine (hva _).mono ?_)
          rintro e w5 ⟨rfl, hb5⟩
          have hb9 : Below (wr.heap.size + 1) (wr.alloc (.cells #[.string a.key, .int .i64 a.v.k, .float .f64 a.v.n, .string a.v.t] 61)) w5 := (Below.refl (wr.heap.size + 1) (wr.alloc (.cells #[.string a.key, .int .i64 a.v.k, .float .f64 a.v.n, .string a.v.t] 61))).drew.trans (hb5.mono (by simp))
          refine hK.out _ _ ⟨(hb9.cell (by exact lz)).trans x0, (hb9.cell (by exact lz)).trans x1, (hb9.cell (by exact lz)).trans x2, (hb9.cell (by exact lz)).trans x3⟩ (fun hHeld => ?_)
          clear hK K
          try go_frame
          refine tt 23 35 (v := ?vbp23) rfl ?hbp23 hHeld ?rbp23
          case hbp23 => intro W hSw; go_simp; try with_reducible rfl
          go_frame
          refine tt 24 36 (v := ?vbp24) rfl ?hbp24 hHeld ?rbp24
          case hbp24 => intro W hSw; go_simp; try with_reducible rfl
          go_frame
          refine tt 25 37 (v := ?vbp25) rfl ?hbp25 hHeld ?rbp25
          case hbp25 => intro W hSw; go_simp; try with_reducible rfl
          go_frame
          refine tu 26 38 rfl hHeld ?_
          go_frame
          refine tu 27 39 rfl hHeld ?_
          go_frame
          refine tu 28 40 rfl hHeld ?_
          go_frame
          refine tu 29 41 rfl hHeld ?_
          go_frame
          refine tt 30 42 (v := ?vbp30) rfl ?hbp30 hHeld ?rbp30
          case hbp30 => intro W hSw; go_simp; try with_reducible rfl
          go_frame
          refine wpAnyH_done (by kernel_rfl) ?_ _
          go_wp2
          go_ret
          rw [HF.out]
          exact ⟨rfl, hb.trans (Below.mono (hbN.trans (hb9.mono (by omega))) hzz)⟩
        · rw [hv] at hva hs
          by_cases hk9 : a.v.k = 0
          · have HF := Lib.hid (show prsB l = false by unfold prsB; rw [← hs, hk9]; simp)
            have hk8 : (a.v.k == 0) = true := by simp [hk9]
            clear hs hl hv hk9
            go_upto_region 4 with (refine wpList_store_new rfl 61 _ _ rfl _ rfl rfl _ _ (by kernel_rfl) (by kernel_rfl) (by kernel_rfl) ?_)
            try clear c0 c1 c2 c3
            refine wp_region_held_drew (S := fun w' => w'.cell? ⟨wr.heap.size, 0, none⟩ = some (.string a.key) ∧ w'.cell? ⟨wr.heap.size, 1, none⟩ = some (.int .i64 a.v.k) ∧ w'.cell? ⟨wr.heap.size, 2, none⟩ = some (.float .f64 a.v.n) ∧ w'.cell? ⟨wr.heap.size, 3, none⟩ = some (.string a.v.t)) (by kernel_rfl) ⟨x0, x1, x2, x3⟩ (fun hHeld => ?_)
            refine tt 0 12 (v := ?vcp0) rfl ?hcp0 hHeld ?rcp0
            case hcp0 => intro W hSw; go_simp; try with_reducible rfl
            go_frame
            refine tt 1 13 (v := ?vcp1) rfl ?hcp1 hHeld ?rcp1
            case hcp1 => intro W hSw; go_simp; try with_reducible rfl
            go_frame
            refine wpAnyH_ready (rs := [2]) (by kernel_rfl) (by simp) ?_
            refine AllReadyH.cons rfl (fun K hK => ?_) AllReadyH.nil
            go_simp
            (with_reducible refine (hka _).mono ?_)
            rintro e w4 ⟨rfl, rfl⟩
            refine hK.out _ _ ⟨x0, x1, x2, x3⟩ (fun hHeld => ?_)
            clear hK K
            try go_frame
            refine tt 3 15 (v := ?vcp3) rfl ?hcp3 hHeld ?rcp3
            case hcp3 => intro W hSw; go_simp; try with_reducible rfl
            go_frame
            refine tt 4 16 (v := ?vcp4) rfl ?hcp4 hHeld ?rcp4
            case hcp4 => intro W hSw; go_simp; try with_reducible rfl
            go_frame
            refine tt 5 17 (v := ?vcp5) rfl ?hcp5 hHeld ?rcp5
            case hcp5 => intro W hSw; go_simp; try with_reducible rfl
            go_frame
            refine tt 6 18 (v := ?vcp6) rfl ?hcp6 hHeld ?rcp6
            case hcp6 => intro W hSw; go_simp; try with_reducible rfl
            go_frame
            refine tt 7 19 (v := ?vcp7) rfl ?hcp7 hHeld ?rcp7
            case hcp7 => intro W hSw; go_simp; try with_reducible rfl
            go_frame
            refine tu 8 20 rfl hHeld ?_
            go_frame
            refine tu 9 21 rfl hHeld ?_
            go_frame
            refine tu 10 22 rfl hHeld ?_
            go_frame
            refine tu 11 23 rfl hHeld ?_
            go_frame
            refine tu 12 24 rfl hHeld ?_
            go_frame
            refine tu 13 25 rfl hHeld ?_
            go_frame
            refine tu 14 26 rfl hHeld ?_
            go_frame
            refine tu 15 27 rfl hHeld ?_
            go_frame
            refine tu 16 28 rfl hHeld ?_
            go_frame
            refine tt 17 29 (v := ?vcp17) rfl ?hcp17 hHeld ?rcp17
            case hcp17 => intro W hSw; go_simp; try with_reducible rfl
            go_frame
            refine tt 18 30 (v := ?vcp18) rfl ?hcp18 hHeld ?rcp18
            case hcp18 => intro W hSw; go_simp; try with_reducible rfl
            go_frame
            refine tt 19 31 (v := ?vcp19) rfl ?hcp19 hHeld ?rcp19
            case hcp19 => intro W hSw; go_simp; try with_reducible rfl
            go_frame
            refine tt 20 32 (v := ?vcp20) rfl ?hcp20 hHeld ?rcp20
            case hcp20 => intro W hSw; go_simp; try with_reducible rfl
            go_frame
            refine tt 21 33 (v := ?vcp21) rfl ?hcp21 hHeld ?rcp21
            case hcp21 => intro W hSw; go_simp; try with_reducible rfl
            go_frame
            refine wpAnyH_ready (rs := [22]) (by kernel_rfl) (by simp) ?_
            refine AllReadyH.cons rfl (fun K hK => ?_) AllReadyH.nil
            go_simp
            (with_reducible refine (hva _).mono ?_)
            rintro e w5 ⟨rfl, hb5⟩
            have hb9 : Below (wr.heap.size + 1) (wr.alloc (.cells #[.string a.key, .int .i64 a.v.k, .float .f64 a.v.n, .string a.v.t] 61)) w5 := (Below.refl (wr.heap.size + 1) (wr.alloc (.cells #[.string a.key, .int .i64 a.v.k, .float .f64 a.v.n, .string a.v.t] 61))).drew.trans (hb5.mono (by simp))
            refine hK.out _ _ ⟨(hb9.cell (by exact lz)).trans x0, (hb9.cell (by exact lz)).trans x1, (hb9.cell (by exact lz)).trans x2, (hb9.cell (by exact lz)).trans x3⟩ (fun hHeld => ?_)
            clear hK K
            try go_frame
            refine tt 23 35 (v := ?vcp23) rfl ?hcp23 hHeld ?rcp23
            case hcp23 => intro W hSw; go_simp; try with_reducible rfl
            go_frame
            refine tt 24 36 (v := ?vcp24) rfl ?hcp24 hHeld ?rcp24
            case hcp24 => intro W hSw; go_simp; try with_reducible rfl
            go_frame
            refine tt 25 37 (v := ?vcp25) rfl ?hcp25 hHeld ?rcp25
            case hcp25 => intro W hSw; go_simp; try with_reducible rfl
            go_frame
            refine tt 26 38 (v := ?vcp26) rfl ?hcp26 hHeld ?rcp26
            case hcp26 => intro W hSw; go_simp; try with_reducible rfl
            go_frame
            refine tt 27 39 (v := ?vcp27) rfl ?hcp27 hHeld ?rcp27
            case hcp27 => intro W hSw; go_simp; try with_reducible rfl
            go_frame
            refine tt 28 40 (v := ?vcp28) rfl ?hcp28 hHeld ?rcp28
            case hcp28 => intro W hSw; go_simp; try with_reducible rfl
            go_frame
            refine tt 29 41 (v := ?vcp29) rfl ?hcp29 hHeld ?rcp29
            case hcp29 => intro W hSw; go_simp; try with_reducible rfl
            go_frame
            refine tt 30 42 (v := ?vcp30) rfl ?hcp30 hHeld ?rcp30
            case hcp30 => intro W hSw; go_simp; try with_reducible rfl
            go_frame
            refine wpAnyH_done (by kernel_rfl) ?_ _
            go_wp2
            go_ret
            rw [HF.out]
            exact ⟨rfl, hb.trans (Below.mono (hbN.trans (hb9.mono (by omega))) hzz)⟩
          · have hk8 : (a.v.k == 0) = false := by simp [hk9]
            have HS := Lib.hid (show prsFrom (aheadW l (k + 1)) (l.drop (k + 1)) = prsFrom none l by rw [← hs, hk8]; simp)
            clear hs hl hv hk9
            go_upto_region 4 with (refine wpList_store_new rfl 61 _ _ rfl _ rfl rfl _ _ (by kernel_rfl) (by kernel_rfl) (by kernel_rfl) ?_)
            try clear c0 c1 c2 c3
            refine wp_region_held_drew (S := fun w' => w'.cell? ⟨wr.heap.size, 0, none⟩ = some (.string a.key) ∧ w'.cell? ⟨wr.heap.size, 1, none⟩ = some (.int .i64 a.v.k) ∧ w'.cell? ⟨wr.heap.size, 2, none⟩ = some (.float .f64 a.v.n) ∧ w'.cell? ⟨wr.heap.size, 3, none⟩ = some (.string a.v.t)) (by kernel_rfl) ⟨x0, x1, x2, x3⟩ (fun hHeld => ?_)
            refine tt 0 12 (v := ?vdp0) rfl ?hdp0 hHeld ?rdp0
            case hdp0 => intro W hSw; go_simp; try with_reducible rfl
            go_frame
            refine tt 1 13 (v := ?vdp1) rfl ?hdp1 hHeld ?rdp1
            case hdp1 => intro W hSw; go_simp; try with_reducible rfl
            go_frame
            refine wpAnyH_ready (rs := [2]) (by kernel_rfl) (by simp) ?_
            refine AllReadyH.cons rfl (fun K hK => ?_) AllReadyH.nil
            go_simp
            (with_reducible refine (hka _).mono ?_)
            rintro e w4 ⟨rfl, rfl⟩
            refine hK.out _ _ ⟨x0, x1, x2, x3⟩ (fun hHeld => ?_)
            clear hK K
            try go_frame
            refine tt 3 15 (v := ?vdp3) rfl ?hdp3 hHeld ?rdp3
            case hdp3 => intro W hSw; go_simp; try with_reducible rfl
            go_frame
            refine tt 4 16 (v := ?vdp4) rfl ?hdp4 hHeld ?rdp4
            case hdp4 => intro W hSw; go_simp; try with_reducible rfl
            go_frame
            refine tt 5 17 (v := ?vdp5) rfl ?hdp5 hHeld ?rdp5
            case hdp5 => intro W hSw; go_simp; try with_reducible rfl
            go_frame
            refine tt 6 18 (v := ?vdp6) rfl ?hdp6 hHeld ?rdp6
            case hdp6 => intro W hSw; go_simp; try with_reducible rfl
            go_frame
            refine tt 7 19 (v := ?vdp7) rfl ?hdp7 hHeld ?rdp7
            case hdp7 => intro W hSw; go_simp; try with_reducible rfl
            go_frame
            refine tu 8 20 rfl hHeld ?_
            go_frame
            refine tu 9 21 rfl hHeld ?_
            go_frame
            refine tu 10 22 rfl hHeld ?_
            go_frame
            refine tu 11 23 rfl hHeld ?_
            go_frame
            refine tu 12 24 rfl hHeld ?_
            go_frame
            refine tu 13 25 rfl hHeld ?_
            go_frame
            refine tu 14 26 rfl hHeld ?_
            go_frame
            refine tu 15 27 rfl hHeld ?_
            go_frame
            refine tu 16 28 rfl hHeld ?_
            go_frame
            refine tt 17 29 (v := ?vdp17) rfl ?hdp17 hHeld ?rdp17
            case hdp17 => intro W hSw; go_simp; try with_reducible rfl
            go_frame
            refine tt 18 30 (v := ?vdp18) rfl ?hdp18 hHeld ?rdp18
            case hdp18 => intro W hSw; go_simp; try with_reducible rfl
            go_frame
            refine tt 19 31 (v := ?vdp19) rfl ?hdp19 hHeld ?rdp19
            case hdp19 => intro W hSw; go_simp; try with_reducible rfl
            go_frame
            refine tt 20 32 (v := ?vdp20) rfl ?hdp20 hHeld ?rdp20
            case hdp20 => intro W hSw; go_simp; try with_reducible rfl
            go_frame
            refine tt 21 33 (v := ?vdp21) rfl ?hdp21 hHeld ?rdp21
            case hdp21 => intro W hSw; go_simp; try with_reducible rfl
            go_frame
            refine wpAnyH_ready (rs := [22]) (by kernel_rfl) (by simp) ?_
            refine AllReadyH.cons rfl (fun K hK => ?_) AllReadyH.nil
            go_simp
            (with_reducible refine (hva _).mono ?_)
            rintro e w5 ⟨rfl, hb5⟩
            have hb9 : Below (wr.heap.size + 1) (wr.alloc (.cells #[.string a.key, .int .i64 a.v.k, .float .f64 a.v.n, .string a.v.t] 61)) w5 := (Below.refl (wr.heap.size + 1) (wr.alloc (.cells #[.string a.key, .int .i64 a.v.k, .float .f64 a.v.n, .string a.v.t] 61))).drew.trans (hb5.mono (by simp))
            refine hK.out _ _ ⟨(hb9.cell (by exact lz)).trans x0, (hb9.cell (by exact lz)).trans x1, (hb9.cell (by exact lz)).trans x2, (hb9.cell (by exact lz)).trans x3⟩ (fun hHeld => ?_)
            clear hK K
            try go_frame
            refine tt 23 35 (v := ?vdp23) rfl ?hdp23 hHeld ?rdp23
            case hdp23 => intro W hSw; go_simp; try with_reducible rfl
            go_frame
            refine tt 24 36 (v := ?vdp24) rfl ?hdp24 hHeld ?rdp24
            case hdp24 => intro W hSw; go_simp; try with_reducible rfl
            go_frame
            refine tt 25 37 (v := ?vdp25) rfl ?hdp25 hHeld ?rdp25
            case hdp25 => intro W hSw; go_simp; try with_reducible rfl
            go_frame
            refine tt 26 38 (v := ?vdp26) rfl ?hdp26 hHeld ?rdp26
            case hdp26 => intro W hSw; go_simp; try with_reducible rfl
            go_frame
            refine tt 27 39 (v := ?vdp27) rfl ?hdp27 hHeld ?rdp27
            case hdp27 => intro W hSw; go_simp; try with_reducible rfl
            go_frame
            refine tt 28 40 (v := ?vdp28) rfl ?hdp28 hHeld ?rdp28
            case hdp28 => intro W hSw; go_simp; try with_reducible rfl
            go_frame
            refine tt 29 41 (v := ?vdp29) rfl ?hdp29 hHeld ?rdp29
            case hdp29 => intro W hSw; go_simp; try with_reducible rfl
            go_frame
            refine tt 30 42 (v := ?vdp30) rfl ?hdp30 hHeld ?rdp30
            case hdp30 => intro W hSw; go_simp; try with_reducible rfl
            go_frame
            refine wpAnyH_done (by kernel_rfl) ?_ _
            go_wp2
            go_roundw
            case rel => exact ⟨k + 1, by omega, by go_num, HS.out, hb.trans (Below.mono (hbN.trans (hb9.mono (by omega))) hzz)⟩
            case measure => simp [intOf]; omega
      · obtain ⟨ad', b, e', hb', hbk', hok', y0, -, -, -⟩ := ((h.below WtRel.kept hb).more WtRel.kept hb.size).wt (k := k - 1) (by omega)
        injection e' with e'
        subst e'
        have hd2 : decide (0 < k) = true := by simp; omega
        have hj0 : (0 : Int) ≤ (k : Int) - 1 := by omega
        have hj1 : (k : Int) - 1 < (n : Int) := by omega
        have hj2 : ((k : Int) - 1).toNat = k - 1 := by omega
        have hj3 : IntKind.i64.wrap ((k : Int) - 1) = (k : Int) - 1 := by rw [IntKind.wrap_i64]; omega
        have hj4 : (1 : Int) ≤ (k : Int) := by omega
        have hbz' : (ad.add ((k - 1) * 4)).block < wr.heap.size + 1 := by omega
        have y0' : (wr.alloc (.cells #[.string a.key, .int .i64 a.v.k, .float .f64 a.v.n, .string a.v.t] 61)).cell? (ad.add ((k - 1) * 4)) = some (.string b.key) := (hbN.cell hbk').trans y0
        have hah : aheadW l k = some b.key := by
          cases k with
          | zero => omega
          | succ j => show (l[j]?).map (·.key) = _; rw [show l[j]? = some b from hb']; rfl
        rw [hah] at hs
        change (true && bl b.key a.key && a.v.may && !(a.v.k == 0) && prsFrom (aheadW l (k + 1)) (l.drop (k + 1))) = prsFrom none l at hs
        have hle : (Op.bytesLess a.key.toList b.key.toList || a.key.toList == b.key.toList) = !bl b.key a.key := by rw [bl_le]; unfold leB; simp
        clear hz hah hb' hok'
        cases hbl : bl b.key a.key
        · have HF := Lib.hid (show prsB l = false by unfold prsB; rw [← hs]; simp [hbl])
          rw [hbl] at hle
          have hle' : (Op.bytesLess a.key.toList b.key.toList || a.key.toList == b.key.toList) = true := hle
          unfold bl at hbl
          clear hs hl hle
          go_upto_region 4 with (refine wpList_store_new rfl 61 _ _ rfl _ rfl rfl _ _ (by kernel_rfl) (by kernel_rfl) (by kernel_rfl) ?_)
          try clear c0 c1 c2 c3
          refine wp_region_held_drew (S := fun w' => w'.cell? ⟨wr.heap.size, 0, none⟩ = some (.string a.key) ∧ w'.cell? ⟨wr.heap.size, 1, none⟩ = some (.int .i64 a.v.k) ∧ w'.cell? ⟨wr.heap.size, 2, none⟩ = some (.float .f64 a.v.n) ∧ w'.cell? ⟨wr.heap.size, 3, none⟩ = some (.string a.v.t) ∧ w'.cell? (ad.add ((k - 1) * 4)) = some (.string b.key)) (by kernel_rfl) ⟨x0, x1, x2, x3, y0'⟩ (fun hHeld => ?_)
          refine tt 0 12 (v := ?vep0) rfl ?hep0 hHeld ?rep0
          case hep0 => intro W hSw; go_simp; try with_reducible rfl
          go_frame
          refine tt 1 13 (v := ?vep1) rfl ?hep1 hHeld ?rep1
          case hep1 => intro W hSw; go_simp; try with_reducible rfl
          go_frame
          refine wpAnyH_ready (rs := [2]) (by kernel_rfl) (by simp) ?_
          refine AllReadyH.cons rfl (fun K hK => ?_) AllReadyH.nil
          go_simp
          (with_reducible refine (hka _).mono ?_)
          rintro e w4 ⟨rfl, rfl⟩
          refine hK.out _ _ ⟨x0, x1, x2, x3, y0'⟩ (fun hHeld => ?_)
          clear hK K
          try go_frame
          refine tt 3 15 (v := ?vep3) rfl ?hep3 hHeld ?rep3
          case hep3 => intro W hSw; go_simp; try with_reducible rfl
          go_frame
          refine tt 4 16 (v := ?vep4) rfl ?hep4 hHeld ?rep4
          case hep4 => intro W hSw; go_simp; try with_reducible rfl
          go_frame
          refine tt 5 17 (v := ?vep5) rfl ?hep5 hHeld ?rep5
          case hep5 => intro W hSw; go_simp; try with_reducible rfl
          go_frame
          refine tt 6 18 (v := ?vep6) rfl ?hep6 hHeld ?rep6
          case hep6 => intro W hSw; go_simp; try with_reducible rfl
          go_frame
          refine tt 7 19 (v := ?vep7) rfl ?hep7 hHeld ?rep7
          case hep7 => intro W hSw; go_simp; try with_reducible rfl
          go_frame
          refine tt 8 20 (v := ?vep8) rfl ?hep8 hHeld ?rep8
          case hep8 => intro W hSw; go_simp; try with_reducible rfl
          go_frame
          refine tt 9 21 (v := ?vep9) rfl ?hep9 hHeld ?rep9
          case hep9 => intro W hSw; go_simp; try with_reducible rfl
          go_frame
          refine tt 10 22 (v := ?vep10) rfl ?hep10 hHeld ?rep10
          case hep10 => intro W hSw; go_simp; try with_reducible rfl
          go_frame
          refine tt 11 23 (v := ?vep11) rfl ?hep11 hHeld ?rep11
          case hep11 => intro W hSw; go_simp; try with_reducible rfl
          go_frame
          refine tt 12 24 (v := ?vep12) rfl ?hep12 hHeld ?rep12
          case hep12 => intro W hSw; go_simp; try with_reducible rfl
          go_frame
          refine tt 13 25 (v := ?vep13) rfl ?hep13 hHeld ?rep13
          case hep13 => intro W hSw; go_simp; try with_reducible rfl
          go_frame
          refine tt 14 26 (v := ?vep14) rfl ?hep14 hHeld ?rep14
          case hep14 => intro W hSw; go_simp; try with_reducible rfl
          go_frame
          refine tt 15 27 (v := ?vep15) rfl ?hep15 hHeld ?rep15
          case hep15 => intro W hSw; go_simp; try with_reducible rfl
          go_frame
          refine tt 16 28 (v := ?vep16) rfl ?hep16 hHeld ?rep16
          case hep16 => intro W hSw; go_simp; try with_reducible rfl
          go_frame
          refine tt 17 29 (v := ?vep17) rfl ?hep17 hHeld ?rep17
          case hep17 => intro W hSw; go_simp; try with_reducible rfl
          go_frame
          refine tt 18 30 (v := ?vep18) rfl ?hep18 hHeld ?rep18
          case hep18 => intro W hSw; go_simp; try with_reducible rfl
          go_frame
          refine tt 19 31 (v := ?vep19) rfl ?hep19 hHeld ?rep19
          case hep19 => intro W hSw; go_simp; try with_reducible rfl
          go_frame
          refine tu 20 32 rfl hHeld ?_
          go_frame
          refine tu 21 33 rfl hHeld ?_
          go_frame
          refine tu 22 34 rfl hHeld ?_
          go_frame
          refine tu 23 35 rfl hHeld ?_
          go_frame
          refine tt 24 36 (v := ?vep24) rfl ?hep24 hHeld ?rep24
          case hep24 => intro W hSw; go_simp; try with_reducible rfl
          go_frame
          refine tt 25 37 (v := ?vep25) rfl ?hep25 hHeld ?rep25
          case hep25 => intro W hSw; go_simp; try with_reducible rfl
          go_frame
          refine tu 26 38 rfl hHeld ?_
          go_frame
          refine tu 27 39 rfl hHeld ?_
          go_frame
          refine tu 28 40 rfl hHeld ?_
          go_frame
          refine tu 29 41 rfl hHeld ?_
          go_frame
          refine tt 30 42 (v := ?vep30) rfl ?hep30 hHeld ?rep30
          case hep30 => intro W hSw; go_simp; try with_reducible rfl
          go_frame
          refine wpAnyH_done (by kernel_rfl) ?_ _
          go_wp2
          go_ret
          rw [HF.out]
          exact ⟨rfl, hb.trans (Below.mono hbN.drew hzz)⟩
        · rw [hbl] at hs hle
          have hl1 : Op.bytesLess a.key.toList b.key.toList = false ∧ (a.key.toList == b.key.toList) = false := by simpa [Bool.or_eq_false_iff] using hle
          obtain ⟨hl2, hl3⟩ := hl1
          unfold bl at hbl
          clear hle
          cases hv : a.v.may
          · rw [hv] at hva hs
            have HF := Lib.hid (show prsB l = false by unfold prsB; rw [← hs]; simp)
            clear hs hl hv
            go_upto_region 4 with (refine wpList_store_new rfl 61 _ _ rfl _ rfl rfl _ _ (by kernel_rfl) (by kernel_rfl) (by kernel_rfl) ?_)
            try clear c0 c1 c2 c3
            refine wp_region_held_drew (S := fun w' => w'.cell? ⟨wr.heap.size, 0, none⟩ = some (.string a.key) ∧ w'.cell? ⟨wr.heap.size, 1, none⟩ = some (.int .i64 a.v.k) ∧ w'.cell? ⟨wr.heap.size, 2, none⟩ = some (.float .f64 a.v.n) ∧ w'.cell? ⟨wr.heap.size, 3, none⟩ = some (.string a.v.t) ∧ w'.cell? (ad.add ((k - 1) * 4)) = some (.string b.key)) (by kernel_rfl) ⟨x0, x1, x2, x3, y0'⟩ (fun hHeld => ?_)
            refine tt 0 12 (v := ?vfp0) rfl ?hfp0 hHeld ?rfp0
            case hfp0 => intro W hSw; go_simp; try with_reducible rfl
            go_frame
            refine tt 1 13 (v := ?vfp1) rfl ?hfp1 hHeld ?rfp1
            case hfp1 => intro W hSw; go_simp; try with_reducible rfl
            go_frame
            refine wpAnyH_ready (rs := [2]) (by kernel_rfl) (by simp) ?_
            refine AllReadyH.cons rfl (fun K hK => ?_) AllReadyH.nil
            go_simp
            (with_reducible refine (hka _).mono ?_)
            rintro e w4 ⟨rfl, rfl⟩
            refine hK.out _ _ ⟨x0, x1, x2, x3, y0'⟩ (fun hHeld => ?_)
            clear hK K
            try go_frame
            refine tt 3 15 (v := ?vfp3) rfl ?hfp3 hHeld ?rfp3
            case hfp3 => intro W hSw; go_simp; try with_reducible rfl
            go_frame
            refine tt 4 16 (v := ?vfp4) rfl ?hfp4 hHeld ?rfp4
            case hfp4 => intro W hSw; go_simp; try with_reducible rfl
            go_frame
            refine tt 5 17 (v := ?vfp5) rfl ?hfp5 hHeld ?rfp5
            case hfp5 => intro W hSw; go_simp; try with_reducible rfl
            go_frame
            refine tt 6 18 (v := ?vfp6) rfl ?hfp6 hHeld ?rfp6
            case hfp6 => intro W hSw; go_simp; try with_reducible rfl
            go_frame
            refine tt 7 19 (v := ?vfp7) rfl ?hfp7 hHeld ?rfp7
            case hfp7 => intro W hSw; go_simp; try with_reducible rfl
            go_frame
            refine tt 8 20 (v := ?vfp8) rfl ?hfp8 hHeld ?rfp8
            case hfp8 => intro W hSw; go_simp; try with_reducible rfl
            go_frame
            refine tt 9 21 (v := ?vfp9) rfl ?hfp9 hHeld ?rfp9
            case hfp9 => intro W hSw; go_simp; try with_reducible rfl
            go_frame
            refine tt 10 22 (v := ?vfp10) rfl ?hfp10 hHeld ?rfp10
            case hfp10 => intro W hSw; go_simp; try with_reducible rfl
            go_frame
            refine tt 11 23 (v := ?vfp11) rfl ?hfp11 hHeld ?rfp11
            case hfp11 => intro W hSw; go_simp; try with_reducible rfl
            go_frame
            refine tt 12 24 (v := ?vfp12) rfl ?hfp12 hHeld ?rfp12
            case hfp12 => intro W hSw; go_simp; try with_reducible rfl
            go_frame
            refine tt 13 25 (v := ?vfp13) rfl ?hfp13 hHeld ?rfp13
            case hfp13 => intro W hSw; go_simp; try with_reducible rfl
            go_frame
            refine tt 14 26 (v := ?vfp14) rfl ?hfp14 hHeld ?rfp14
            case hfp14 => intro W hSw; go_simp; try with_reducible rfl
            go_frame
            refine tt 15 27 (v := ?vfp15) rfl ?hfp15 hHeld ?rfp15
            case hfp15 => intro W hSw; go_simp; try with_reducible rfl
            go_frame
            refine tt 16 28 (v := ?vfp16) rfl ?hfp16 hHeld ?rfp16
            case hfp16 => intro W hSw; go_simp; try with_reducible rfl
            go_frame
            refine tt 17 29 (v := ?vfp17) rfl ?hfp17 hHeld ?rfp17
            case hfp17 => intro W hSw; go_simp; try with_reducible rfl
            go_frame
            refine tt 18 30 (v := ?vfp18) rfl ?hfp18 hHeld ?rfp18
            case hfp18 => intro W hSw; go_simp; try with_reducible rfl
            go_frame
            refine tt 19 31 (v := ?vfp19) rfl ?hfp19 hHeld ?rfp19
            case hfp19 => intro W hSw; go_simp; try with_reducible rfl
            go_frame
            refine tt 20 32 (v := ?vfp20) rfl ?hfp20 hHeld ?rfp20
            case hfp20 => intro W hSw; go_simp; try with_reducible rfl
            go_frame
            refine tt 21 33 (v := ?vfp21) rfl ?hfp21 hHeld ?rfp21
            case hfp21 => intro W hSw; go_simp; try with_reducible rfl
            go_frame
            refine wpAnyH_ready (rs := [22]) (by kernel_rfl) (by simp) ?_
            refine AllReadyH.cons rfl (fun K hK => ?_) AllReadyH.nil
            go_simp
            (with_reducible refine (hva _).mono ?_)
            rintro e w5 ⟨rfl, hb5⟩
            have hb9 : Below (wr.heap.size + 1) (wr.alloc (.cells #[.string a.key, .int .i64 a.v.k, .float .f64 a.v.n, .string a.v.t] 61)) w5 := (Below.refl (wr.heap.size + 1) (wr.alloc (.cells #[.string a.key, .int .i64 a.v.k, .float .f64 a.v.n, .string a.v.t] 61))).drew.trans (hb5.mono (by simp))
            refine hK.out _ _ ⟨(hb9.cell (by exact lz)).trans x0, (hb9.cell (by exact lz)).trans x1, (hb9.cell (by exact lz)).trans x2, (hb9.cell (by exact lz)).trans x3, (hb9.cell (by exact hbz')).trans y0'⟩ (fun hHeld => ?_)
            clear hK K
            try go_frame
            refine tt 23 35 (v := ?vfp23) rfl ?hfp23 hHeld ?rfp23
            case hfp23 => intro W hSw; go_simp; try with_reducible rfl
            go_frame
            refine tt 24 36 (v := ?vfp24) rfl ?hfp24 hHeld ?rfp24
            case hfp24 => intro W hSw; go_simp; try with_reducible rfl
            go_frame
            refine tt 25 37 (v := ?vfp25) rfl ?hfp25 hHeld ?rfp25
            case hfp25 => intro W hSw; go_simp; try with_reducible rfl
            go_frame
            refine tu 26 38 rfl hHeld ?_
            go_frame
            refine tu 27 39 rfl hHeld ?_
            go_frame
            refine tu 28 40 rfl hHeld ?_
            go_frame
            refine tu 29 41 rfl hHeld ?_
            go_frame
            refine tt 30 42 (v := ?vfp30) rfl ?hfp30 hHeld ?rfp30
            case hfp30 => intro W hSw; go_simp; try with_reducible rfl
            go_frame
            refine wpAnyH_done (by kernel_rfl) ?_ _
            go_wp2
            go_ret
            rw [HF.out]
            exact ⟨rfl, hb.trans (Below.mono (hbN.trans (hb9.mono (by omega))) hzz)⟩
          · rw [hv] at hva hs
            by_cases hk9 : a.v.k = 0
            · have HF := Lib.hid (show prsB l = false by unfold prsB; rw [← hs, hk9]; simp)
              have hk8 : (a.v.k == 0) = true := by simp [hk9]
              clear hs hl hv hk9
              go_upto_region 4 with (refine wpList_store_new rfl 61 _ _ rfl _ rfl rfl _ _ (by kernel_rfl) (by kernel_rfl) (by kernel_rfl) ?_)
              try clear c0 c1 c2 c3
              refine wp_region_held_drew (S := fun w' => w'.cell? ⟨wr.heap.size, 0, none⟩ = some (.string a.key) ∧ w'.cell? ⟨wr.heap.size, 1, none⟩ = some (.int .i64 a.v.k) ∧ w'.cell? ⟨wr.heap.size, 2, none⟩ = some (.float .f64 a.v.n) ∧ w'.cell? ⟨wr.heap.size, 3, none⟩ = some (.string a.v.t) ∧ w'.cell? (ad.add ((k - 1) * 4)) = some (.string b.key)) (by kernel_rfl) ⟨x0, x1, x2, x3, y0'⟩ (fun hHeld => ?_)
              refine tt 0 12 (v := ?vgp0) rfl ?hgp0 hHeld ?rgp0
              case hgp0 => intro W hSw; go_simp; try with_reducible rfl
              go_frame
              refine tt 1 13 (v := ?vgp1) rfl ?hgp1 hHeld ?rgp1
              case hgp1 => intro W hSw; go_simp; try with_reducible rfl
              go_frame
              refine wpAnyH_ready (rs := [2]) (by kernel_rfl) (by simp) ?_
              refine AllReadyH.cons rfl (fun K hK => ?_) AllReadyH.nil
              go_simp
              (with_reducible refine (hka _).mono ?_)
              rintro e w4 ⟨rfl, rfl⟩
              refine hK.out _ _ ⟨x0, x1, x2, x3, y0'⟩ (fun hHeld => ?_)
              clear hK K
              try go_frame
              refine tt 3 15 (v := ?vgp3) rfl ?hgp3 hHeld ?rgp3
              case hgp3 => intro W hSw; go_simp; try with_reducible rfl
              go_frame
              refine tt 4 16 (v := ?vgp4) rfl ?hgp4 hHeld ?rgp4
              case hgp4 => intro W hSw; go_simp; try with_reducible rfl
              go_frame
              refine tt 5 17 (v := ?vgp5) rfl ?hgp5 hHeld ?rgp5
              case hgp5 => intro W hSw; go_simp; try with_reducible rfl
              go_frame
              refine tt 6 18 (v := ?vgp6) rfl ?hgp6 hHeld ?rgp6
              case hgp6 => intro W hSw; go_simp; try with_reducible rfl
              go_frame
              refine tt 7 19 (v := ?vgp7) rfl ?hgp7 hHeld ?rgp7
              case hgp7 => intro W hSw; go_simp; try with_reducible rfl
              go_frame
              refine tt 8 20 (v := ?vgp8) rfl ?hgp8 hHeld ?rgp8
              case hgp8 => intro W hSw; go_simp; try with_reducible rfl
              go_frame
              refine tt 9 21 (v := ?vgp9) rfl ?hgp9 hHeld ?rgp9
              case hgp9 => intro W hSw; go_simp; try with_reducible rfl
              go_frame
              refine tt 10 22 (v := ?vgp10) rfl ?hgp10 hHeld ?rgp10
              case hgp10 => intro W hSw; go_simp; try with_reducible rfl
              go_frame
              refine tt 11 23 (v := ?vgp11) rfl ?hgp11 hHeld ?rgp11
              case hgp11 => intro W hSw; go_simp; try with_reducible rfl
              go_frame
              refine tt 12 24 (v := ?vgp12) rfl ?hgp12 hHeld ?rgp12
              case hgp12 => intro W hSw; go_simp; try with_reducible rfl
              go_frame
              refine tt 13 25 (v := ?vgp13) rfl ?hgp13 hHeld ?rgp13
              case hgp13 => intro W hSw; go_simp; try with_reducible rfl
              go_frame
              refine tt 14 26 (v := ?vgp14) rfl ?hgp14 hHeld ?rgp14
              case hgp14 => intro W hSw; go_simp; try with_reducible rfl
              go_frame
              refine tt 15 27 (v := ?vgp15) rfl ?hgp15 hHeld ?rgp15
              case hgp15 => intro W hSw; go_simp; try with_reducible rfl
              go_frame
              refine tt 16 28 (v := ?vgp16) rfl ?hgp16 hHeld ?rgp16
              case hgp16 => intro W hSw; go_simp; try with_reducible rfl
              go_frame
              refine tt 17 29 (v := ?vgp17) rfl ?hgp17 hHeld ?rgp17
              case hgp17 => intro W hSw; go_simp; try with_reducible rfl
              go_frame
              refine tt 18 30 (v := ?vgp18) rfl ?hgp18 hHeld ?rgp18
              case hgp18 => intro W hSw; go_simp; try with_reducible rfl
              go_frame
              refine tt 19 31 (v := ?vgp19) rfl ?hgp19 hHeld ?rgp19
              case hgp19 => intro W hSw; go_simp; try with_reducible rfl
              go_frame
              refine tt 20 32 (v := ?vgp20) rfl ?hgp20 hHeld ?rgp20
              case hgp20 => intro W hSw; go_simp; try with_reducible rfl
              go_frame
              refine tt 21 33 (v := ?vgp21) rfl ?hgp21 hHeld ?rgp21
              case hgp21 => intro W hSw; go_simp; try with_reducible rfl
              go_frame
              refine wpAnyH_ready (rs := [22]) (by kernel_rfl) (by simp) ?_
              refine AllReadyH.cons rfl (fun K hK => ?_) AllReadyH.nil
              go_simp
              (with_reducible refine (hva _).mono ?_)
              rintro e w5 ⟨rfl, hb5⟩
              have hb9 : Below (wr.heap.size + 1) (wr.alloc (.cells #[.string a.key, .int .i64 a.v.k, .float .f64 a.v.n, .string a.v.t] 61)) w5 := (Below.refl (wr.heap.size + 1) (wr.alloc (.cells #[.string a.key, .int .i64 a.v.k, .float .f64 a.v.n, .string a.v.t] 61))).drew.trans (hb5.mono (by simp))
              refine hK.out _ _ ⟨(hb9.cell (by exact lz)).trans x0, (hb9.cell (by exact lz)).trans x1, (hb9.cell (by exact lz)).trans x2, (hb9.cell (by exact lz)).trans x3, (hb9.cell (by exact hbz')).trans y0'⟩ (fun hHeld => ?_)
              clear hK K
              try go_frame
              refine tt 23 35 (v := ?vgp23) rfl ?hgp23 hHeld ?rgp23
              case hgp23 => intro W hSw; go_simp; try with_reducible rfl
              go_frame
              refine tt 24 36 (v := ?vgp24) rfl ?hgp24 hHeld ?rgp24
              case hgp24 => intro W hSw; go_simp; try with_reducible rfl
              go_frame
              refine tt 25 37 (v := ?vgp25) rfl ?hgp25 hHeld ?rgp25
              case hgp25 => intro W hSw; go_simp; try with_reducible rfl
              go_frame
              refine tt 26 38 (v := ?vgp26) rfl ?hgp26 hHeld ?rgp26
              case hgp26 => intro W hSw; go_simp; try with_reducible rfl
              go_frame
              refine tt 27 39 (v := ?vgp27) rfl ?hgp27 hHeld ?rgp27
              case hgp27 => intro W hSw; go_simp; try with_reducible rfl
              go_frame
              refine tt 28 40 (v := ?vgp28) rfl ?hgp28 hHeld ?rgp28
              case hgp28 => intro W hSw; go_simp; try with_reducible rfl
              go_frame
              refine tt 29 41 (v := ?vgp29) rfl ?hgp29 hHeld ?rgp29
              case hgp29 => intro W hSw; go_simp; try with_reducible rfl
              go_frame
              refine tt 30 42 (v := ?vgp30) rfl ?hgp30 hHeld ?rgp30
              case hgp30 => intro W hSw; go_simp; try with_reducible rfl
              go_frame
              refine wpAnyH_done (by kernel_rfl) ?_ _
              go_wp2
              go_ret
              rw [HF.out]
              exact ⟨rfl, hb.trans (Below.mono (hbN.trans (hb9.mono (by omega))) hzz)⟩
            · have hk8 : (a.v.k == 0) = false := by simp [hk9]
              have HS := Lib.hid (show prsFrom (aheadW l (k + 1)) (l.drop (k + 1)) = prsFrom none l by rw [← hs, hk8]; simp)
              clear hs hl hv hk9
              go_upto_region 4 with (refine wpList_store_new rfl 61 _ _ rfl _ rfl rfl _ _ (by kernel_rfl) (by kernel_rfl) (by kernel_rfl) ?_)
              try clear c0 c1 c2 c3
              refine wp_region_held_drew (S := fun w' => w'.cell? ⟨wr.heap.size, 0, none⟩ = some (.string a.key) ∧ w'.cell? ⟨wr.heap.size, 1, none⟩ = some (.int .i64 a.v.k) ∧ w'.cell? ⟨wr.heap.size, 2, none⟩ = some (.float .f64 a.v.n) ∧ w'.cell? ⟨wr.heap.size, 3, none⟩ = some (.string a.v.t) ∧ w'.cell? (ad.add ((k - 1) * 4)) = some (.string b.key)) (by kernel_rfl) ⟨x0, x1, x2, x3, y0'⟩ (fun hHeld => ?_)
              refine tt 0 12 (v := ?vhp0) rfl ?hhp0 hHeld ?rhp0
              case hhp0 => intro W hSw; go_simp; try with_reducible rfl
              go_frame
              refine tt 1 13 (v := ?vhp1) rfl ?hhp1 hHeld ?rhp1
              case hhp1 => intro W hSw; go_simp; try with_reducible rfl
              go_frame
              refine wpAnyH_ready (rs := [2]) (by kernel_rfl) (by simp) ?_
              refine AllReadyH.cons rfl (fun K hK => ?_) AllReadyH.nil
              go_simp
              (with_reducible refine (hka _).mono ?_)
              rintro e w4 ⟨rfl, rfl⟩
              refine hK.out _ _ ⟨x0, x1, x2, x3, y0'⟩ (fun hHeld => ?_)
              clear hK K
              try go_frame
              refine tt 3 15 (v := ?vhp3) rfl ?hhp3 hHeld ?rhp3
              case hhp3 => intro W hSw; go_simp; try with_reducible rfl
              go_frame
              refine tt 4 16 (v := ?vhp4) rfl ?hhp4 hHeld ?rhp4
              case hhp4 => intro W hSw; go_simp; try with_reducible rfl
              go_frame
              refine tt 5 17 (v := ?vhp5) rfl ?hhp5 hHeld ?rhp5
              case hhp5 => intro W hSw; go_simp; try with_reducible rfl
              go_frame
              refine tt 6 18 (v := ?vhp6) rfl ?hhp6 hHeld ?rhp6
              case hhp6 => intro W hSw; go_simp; try with_reducible rfl
              go_frame
              refine tt 7 19 (v := ?vhp7) rfl ?hhp7 hHeld ?rhp7
              case hhp7 => intro W hSw; go_simp; try with_reducible rfl
              go_frame
              refine tt 8 20 (v := ?vhp8) rfl ?hhp8 hHeld ?rhp8
              case hhp8 => intro W hSw; go_simp; try with_reducible rfl
              go_frame
              refine tt 9 21 (v := ?vhp9) rfl ?hhp9 hHeld ?rhp9
              case hhp9 => intro W hSw; go_simp; try with_reducible rfl
              go_frame
              refine tt 10 22 (v := ?vhp10) rfl ?hhp10 hHeld ?rhp10
              case hhp10 => intro W hSw; go_simp; try with_reducible rfl
              go_frame
              refine tt 11 23 (v := ?vhp11) rfl ?hhp11 hHeld ?rhp11
              case hhp11 => intro W hSw; go_simp; try with_reducible rfl
              go_frame
              refine tt 12 24 (v := ?vhp12) rfl ?hhp12 hHeld ?rhp12
              case hhp12 => intro W hSw; go_simp; try with_reducible rfl
              go_frame
              refine tt 13 25 (v := ?vhp13) rfl ?hhp13 hHeld ?rhp13
              case hhp13 => intro W hSw; go_simp; try with_reducible rfl
              go_frame
              refine tt 14 26 (v := ?vhp14) rfl ?hhp14 hHeld ?rhp14
              case hhp14 => intro W hSw; go_simp; try with_reducible rfl
              go_frame
              refine tt 15 27 (v := ?vhp15) rfl ?hhp15 hHeld ?rhp15
              case hhp15 => intro W hSw; go_simp; try with_reducible rfl
              go_frame
              refine tt 16 28 (v := ?vhp16) rfl ?hhp16 hHeld ?rhp16
              case hhp16 => intro W hSw; go_simp; try with_reducible rfl
              go_frame
              refine tt 17 29 (v := ?vhp17) rfl ?hhp17 hHeld ?rhp17
              case hhp17 => intro W hSw; go_simp; try with_reducible rfl
              go_frame
              refine tt 18 30 (v := ?vhp18) rfl ?hhp18 hHeld ?rhp18
              case hhp18 => intro W hSw; go_simp; try with_reducible rfl
              go_frame
              refine tt 19 31 (v := ?vhp19) rfl ?hhp19 hHeld ?rhp19
              case hhp19 => intro W hSw; go_simp; try with_reducible rfl
              go_frame
              refine tt 20 32 (v := ?vhp20) rfl ?hhp20 hHeld ?rhp20
              case hhp20 => intro W hSw; go_simp; try with_reducible rfl
              go_frame
              refine tt 21 33 (v := ?vhp21) rfl ?hhp21 hHeld ?rhp21
              case hhp21 => intro W hSw; go_simp; try with_reducible rfl
              go_frame
              refine wpAnyH_ready (rs := [22]) (by kernel_rfl) (by simp) ?_
              refine AllReadyH.cons rfl (fun K hK => ?_) AllReadyH.nil
              go_simp
              (with_reducible refine (hva _).mono ?_)
              rintro e w5 ⟨rfl, hb5⟩
              have hb9 : Below (wr.heap.size + 1) (wr.alloc (.cells #[.string a.key, .int .i64 a.v.k, .float .f64 a.v.n, .string a.v.t] 61)) w5 := (Below.refl (wr.heap.size + 1) (wr.alloc (.cells #[.string a.key, .int .i64 a.v.k, .float .f64 a.v.n, .string a.v.t] 61))).drew.trans (hb5.mono (by simp))
              refine hK.out _ _ ⟨(hb9.cell (by exact lz)).trans x0, (hb9.cell (by exact lz)).trans x1, (hb9.cell (by exact lz)).trans x2, (hb9.cell (by exact lz)).trans x3, (hb9.cell (by exact hbz')).trans y0'⟩ (fun hHeld => ?_)
              clear hK K
              try go_frame
              refine tt 23 35 (v := ?vhp23) rfl ?hhp23 hHeld ?rhp23
              case hhp23 => intro W hSw; go_simp; try with_reducible rfl
              go_frame
              refine tt 24 36 (v := ?vhp24) rfl ?hhp24 hHeld ?rhp24
              case hhp24 => intro W hSw; go_simp; try with_reducible rfl
              go_frame
              refine tt 25 37 (v := ?vhp25) rfl ?hhp25 hHeld ?rhp25
              case hhp25 => intro W hSw; go_simp; try with_reducible rfl
              go_frame
              refine tt 26 38 (v := ?vhp26) rfl ?hhp26 hHeld ?rhp26
              case hhp26 => intro W hSw; go_simp; try with_reducible rfl
              go_frame
              refine tt 27 39 (v := ?vhp27) rfl ?hhp27 hHeld ?rhp27
              case hhp27 => intro W hSw; go_simp; try with_reducible rfl
              go_frame
              refine tt 28 40 (v := ?vhp28) rfl ?hhp28 hHeld ?rhp28
              case hhp28 => intro W hSw; go_simp; try with_reducible rfl
              go_frame
              refine tt 29 41 (v := ?vhp29) rfl ?hhp29 hHeld ?rhp29
              case hhp29 => intro W hSw; go_simp; try with_reducible rfl
              go_frame
              refine tt 30 42 (v := ?vhp30) rfl ?hhp30 hHeld ?rhp30
              case hhp30 => intro W hSw; go_simp; try with_reducible rfl
              go_frame
              refine wpAnyH_done (by kernel_rfl) ?_ _
              go_wp2
              go_roundw
              case rel => exact ⟨k + 1, by omega, by go_num, HS.out, hb.trans (Below.mono (hbN.trans (hb9.mono (by omega))) hzz)⟩
              case measure => simp [intOf]; omega
  · have hd1 : decide ((k : Int) < (n : Int)) = false := by simp; omega
    have HS := Lib.hid (show prsB l = true by unfold prsB; rw [← hs, List.drop_of_length_le (by omega)]; rfl)
    clear hs hl
    go_wp2
    go_ret
    rw [HS.out]
    exact ⟨rfl, hb⟩
theorem rprs_any (A : Option Addr) (n c : Nat) (l : List Wt) (w : World) (h : Sl WtRel 4 w w.heap.size A n l) (hn : n ≤ maxLen) :
 Calls Tryz.prog 101 #[.slice A n c] w fun e w' => e = .returned (.bool (prsB l)) ∧ Below w.heap.size w w' := by
 unfold maxLen at hn
 have hl := h.1
 have hge : n ≤ l.length := by omega
 go_enter Tryz.func101, Tryz.ntmps101
 go_wp2
 go_loopw [3] (fun i wr => PrsRel l w i wr) (fun i _ => n - (intOf i).toNat)
 case atStart => exact ⟨0, by omega, rfl, rfl, Below.refl _ _⟩
 case round =>
  obtain ⟨k, hk, rfl, hs, hb⟩ := hrel
  have hzz := hb.size
  by_cases hlt : k < n
  · obtain ⟨ad, a, rfl, ha, hbk, hok, c0, c1, c2, c3⟩ := ((h.below WtRel.kept hb).more WtRel.kept hb.size).wt hlt
    have hka := fun w => rkey_any a.key w
    have hva := fun w => rvmay_any a.v w
    have hd1 : decide ((k : Int) < (n : Int)) = true := by simp; omega
    have hk0 : (0 : Int) ≤ (k : Int) := by omega
    have hk1 : (k : Int) < (n : Int) := by omega
    have lz : wr.heap.size < wr.heap.size + 1 := Nat.lt_succ_self _
    have hbz : (ad.add (k * 4)).block < wr.heap.size + 1 := by omega
    have hbN : Below wr.heap.size wr (wr.alloc (.cells #[.int .i64 a.v.k, .float .f64 a.v.n, .string a.v.t] 58)) := (Below.refl _ _).alloc (Nat.le_refl _) _
    have hbB := Blk.new wr 58 #[.int .i64 a.v.k, .float .f64 a.v.n, .string a.v.t]
    obtain ⟨-, x0, x1, x2⟩ : wr.heap.size < wr.heap.size + 1 ∧ (wr.alloc (.cells #[.int .i64 a.v.k, .float .f64 a.v.n, .string a.v.t] 58)).cell? ⟨wr.heap.size, 0, none⟩ = some (.int .i64 a.v.k) ∧ (wr.alloc (.cells #[.int .i64 a.v.k, .float .f64 a.v.n, .string a.v.t] 58)).cell? ⟨wr.heap.size, 1, none⟩ = some (.float .f64 a.v.n) ∧ (wr.alloc (.cells #[.int .i64 a.v.k, .float .f64 a.v.n, .string a.v.t] 58)).cell? ⟨wr.heap.size, 2, none⟩ = some (.string a.v.t) := ⟨lz, hbB.cell 0, hbB.cell 1, hbB.cell 2⟩
    have c0' : (wr.alloc (.cells #[.int .i64 a.v.k, .float .f64 a.v.n, .string a.v.t] 58)).cell? (ad.add (k * 4)) = some (.string a.key) := (hbN.cell hbk).trans c0
    clear hbB
    rw [prsFrom_drop ha] at hs
    clear ha
    cases hkb : keyB a.key
    · rw [hkb] at hka hs
      have HF := Lib.hid (show prsB l = false by unfold prsB; rw [← hs]; rfl)
      clear hs hl
      go_upto_region 5 with (refine wpList_store_new rfl 58 _ _ rfl _ rfl rfl _ _ (by kernel_rfl) (by kernel_rfl) (by kernel_rfl) ?_)
      try clear c0 c1 c2 c3
      refine wp_region_held_drew (S := fun w' => w'.cell? ⟨wr.heap.size, 0, none⟩ = some (.int .i64 a.v.k) ∧ w'.cell? ⟨wr.heap.size, 1, none⟩ = some (.float .f64 a.v.n) ∧ w'.cell? ⟨wr.heap.size, 2, none⟩ = some (.string a.v.t) ∧ w'.cell? (ad.add (k * 4)) = some (.string a.key)) (by kernel_rfl) ⟨x0, x1, x2, c0'⟩ (fun hHeld => ?_)
      refine tt 0 16 (v := ?var0) rfl ?har0 hHeld ?rar0
      case har0 => intro W hSw; go_simp; try with_reducible rfl
      go_frame
      refine tt 1 17 (v := ?var1) rfl ?har1 hHeld ?rar1
      case har1 => intro W hSw; go_simp; try with_reducible rfl
      go_frame
      refine tt 2 18 (v := ?var2) rfl ?har2 hHeld ?rar2
      case har2 => intro W hSw; go_simp; try with_reducible rfl
      go_frame
      refine tt 3 19 (v := ?var3) rfl ?har3 hHeld ?rar3
      case har3 => intro W hSw; go_simp; try with_reducible rfl
      go_frame
      refine tt 4 20 (v := ?var4) rfl ?har4 hHeld ?rar4
      case har4 => intro W hSw; go_simp; try with_reducible rfl
      go_frame
      refine wpAnyH_ready (rs := [5]) (by kernel_rfl) (by simp) ?_
      refine AllReadyH.cons rfl (fun K hK => ?_) AllReadyH.nil
      go_simp
      (with_reducible refine (hka _).mono ?_)
      rintro e w4 ⟨rfl, rfl⟩
      refine hK.out _ _ ⟨x0, x1, x2, c0'⟩ (fun hHeld => ?_)
      clear hK K
      try go_frame
      refine tt 6 22 (v := ?var6) rfl ?har6 hHeld ?rar6
      case har6 => intro W hSw; go_simp; try with_reducible rfl
      go_frame
      refine tt 7 23 (v := ?var7) rfl ?har7 hHeld ?rar7
      case har7 => intro W hSw; go_simp; try with_reducible rfl
      go_frame
      refine tu 8 24 rfl hHeld ?_
      go_frame
      refine tu 9 25 rfl hHeld ?_
      go_frame
      refine tu 10 26 rfl hHeld ?_
      go_frame
      refine tu 11 27 rfl hHeld ?_
      go_frame
      refine tu 12 28 rfl hHeld ?_
      go_frame
      refine tu 13 29 rfl hHeld ?_
      go_frame
      refine tu 14 30 rfl hHeld ?_
      go_frame
      refine tu 15 31 rfl hHeld ?_
      go_frame
      refine tu 16 32 rfl hHeld ?_
      go_frame
      refine tu 17 33 rfl hHeld ?_
      go_frame
      refine tu 18 34 rfl hHeld ?_
      go_frame
      refine tu 19 35 rfl hHeld ?_
      go_frame
      refine tu 20 36 rfl hHeld ?_
      go_frame
      refine tu 21 37 rfl hHeld ?_
      go_frame
      refine tu 22 38 rfl hHeld ?_
      go_frame
      refine tu 23 39 rfl hHeld ?_
      go_frame
      refine tt 24 40 (v := ?var24) rfl ?har24 hHeld ?rar24
      case har24 => intro W hSw; go_simp; try with_reducible rfl
      go_frame
      refine tt 25 41 (v := ?var25) rfl ?har25 hHeld ?rar25
      case har25 => intro W hSw; go_simp; try with_reducible rfl
      go_frame
      refine tu 26 42 rfl hHeld ?_
      go_frame
      refine tu 27 43 rfl hHeld ?_
      go_frame
      refine tu 28 44 rfl hHeld ?_
      go_frame
      refine tt 29 45 (v := ?var29) rfl ?har29 hHeld ?rar29
      case har29 => intro W hSw; go_simp; try with_reducible rfl
      go_frame
      refine tt 30 46 (v := ?var30) rfl ?har30 hHeld ?rar30
      case har30 => intro W hSw; go_simp; try with_reducible rfl
      go_frame
      refine tu 31 47 rfl hHeld ?_
      go_frame
      refine tu 32 48 rfl hHeld ?_
      go_frame
      refine tu 33 49 rfl hHeld ?_
      go_frame
      refine tt 34 50 (v := ?var34) rfl ?har34 hHeld ?rar34
      case har34 => intro W hSw; go_simp; try with_reducible rfl
      go_frame
      refine wpAnyH_done (by kernel_rfl) ?_ _
      go_wp2
      go_ret
      rw [HF.out]
      exact ⟨rfl, hb.trans (Below.mono hbN.drew hzz)⟩
    · rw [hkb] at hka hs
      by_cases hz : k = 0
      · have hd2 : decide (0 < k) = false := by simp; omega
        rw [show aheadW l k = none from by rw [hz]; rfl] at hs
        clear hz
        cases hv : a.v.may
        · rw [hv] at hva hs
          have HF := Lib.hid (show prsB l = false by unfold prsB; rw [← hs]; simp)
          clear hs hl hv
          go_upto_region 5 with (refine wpList_store_new rfl 58 _ _ rfl _ rfl rfl _ _ (by kernel_rfl) (by kernel_rfl) (by kernel_rfl) ?_)
          try clear c0 c1 c2 c3
          refine wp_region_held_drew (S := fun w' => w'.cell? ⟨wr.heap.size, 0, none⟩ = some (.int .i64 a.v.k) ∧ w'.cell? ⟨wr.heap.size, 1, none⟩ = some (.float .f64 a.v.n) ∧ w'.cell? ⟨wr.heap.size, 2, none⟩ = some (.string a.v.t) ∧ w'.cell? (ad.add (k * 4)) = some (.string a.key)) (by kernel_rfl) ⟨x0, x1, x2, c0'⟩ (fun hHeld => ?_)
          refine tt 0 16 (v := ?vbr0) rfl ?hbr0 hHeld ?rbr0
          case hbr0 => intro W hSw; go_simp; try with_reducible rfl
          go_frame
          refine tt 1 17 (v := ?vbr1) rfl ?hbr1 hHeld ?rbr1
          case hbr1 => intro W hSw; go_simp; try with_reducible rfl
          go_frame
          refine tt 2 18 (v := ?vbr2) rfl ?hbr2 hHeld ?rbr2
          case hbr2 => intro W hSw; go_simp; try with_reducible rfl
          go_frame
          refine tt 3 19 (v := ?vbr3) rfl ?hbr3 hHeld ?rbr3
          case hbr3 => intro W hSw; go_simp; try with_reducible rfl
          go_frame
          refine tt 4 20 (v := ?vbr4) rfl ?hbr4 hHeld ?rbr4
          case hbr4 => intro W hSw; go_simp; try with_reducible rfl
          go_frame
          refine wpAnyH_ready (rs := [5]) (by kernel_rfl) (by simp) ?_
          refine AllReadyH.cons rfl (fun K hK => ?_) AllReadyH.nil
          go_simp
          (with_reducible refine (hka _).mono ?_)
          rintro e w4 ⟨rfl, rfl⟩
          refine hK.out _ _ ⟨x0, x1, x2, c0'⟩ (fun hHeld => ?_)
          clear hK K
          try go_frame
          refine tt 6 22 (v := ?vbr6) rfl ?hbr6 hHeld ?rbr6
          case hbr6 => intro W hSw; go_simp; try with_reducible rfl
          go_frame
          refine tt 7 23 (v := ?vbr7) rfl ?hbr7 hHeld ?rbr7
          case hbr7 => intro W hSw; go_simp; try with_reducible rfl
          go_frame
          refine tt 8 24 (v := ?vbr8) rfl ?hbr8 hHeld ?rbr8
          case hbr8 => intro W hSw; go_simp; try with_reducible rfl
          go_frame
          refine tt 9 25 (v := ?vbr9) rfl ?hbr9 hHeld ?rbr9
          case hbr9 => intro W hSw; go_simp; try with_reducible rfl
          go_frame
          refine tt 10 26 (v := ?vbr10) rfl ?hbr10 hHeld ?rbr10
          case hbr10 => intro W hSw; go_simp; try with_reducible rfl
          go_frame
          refine tu 11 27 rfl hHeld ?_
          go_frame
          refine tu 12 28 rfl hHeld ?_
          go_frame
          refine tu 13 29 rfl hHeld ?_
          go_frame
          refine tu 14 30 rfl hHeld ?_
          go_frame
          refine tu 15 31 rfl hHeld ?_
          go_frame
          refine tu 16 32 rfl hHeld ?_
          go_frame
          refine tu 17 33 rfl hHeld ?_
          go_frame
          refine tu 18 34 rfl hHeld ?_
          go_frame
          refine tu 19 35 rfl hHeld ?_
          go_frame
          refine tu 20 36 rfl hHeld ?_
          go_frame
          refine tu 21 37 rfl hHeld ?_
          go_frame
          refine tu 22 38 rfl hHeld ?_
          go_frame
          refine tt 23 39 (v := ?vbr23) rfl ?hbr23 hHeld ?rbr23
          case hbr23 => intro W hSw; go_simp; try with_reducible rfl
          go_frame
          refine tt 24 40 (v := ?vbr24) rfl ?hbr24 hHeld ?rbr24
          case hbr24 => intro W hSw; go_simp; try with_reducible rfl
          go_frame
          refine tt 25 41 (v := ?vbr25) rfl ?hbr25 hHeld ?rbr25
          case hbr25 => intro W hSw; go_simp; try with_reducible rfl
          go_frame
          refine tt 26 42 (v := ?vbr26) rfl ?hbr26 hHeld ?rbr26
          case hbr26 => intro W hSw; go_simp; try with_reducible rfl
          go_frame
          refine wpAnyH_ready (rs := [27]) (by kernel_rfl) (by simp) ?_
          refine AllReadyH.cons rfl (fun K hK => ?_) AllReadyH.nil
          go_simp
          (with_reducible refine (hva _).mono ?_)
          rintro e w5 ⟨rfl, hb5⟩
          have hb9 : Below (wr.heap.size + 1) (wr.alloc (.cells #[.int .i64 a.v.k, .float .f64 a.v.n, .string a.v.t] 58)) w5 := (Below.refl (wr.heap.size + 1) (wr.alloc (.cells #[.int .i64 a.v.k, .float .f64 a.v.n, .string a.v.t] 58))).drew.trans (hb5.mono (by simp))
          refine hK.out _ _ ⟨(hb9.cell (by exact lz)).trans x0, (hb9.cell (by exact lz)).trans x1, (hb9.cell (by exact lz)).trans x2, (hb9.cell (by exact hbz)).trans c0'⟩ (fun hHeld => ?_)
          clear hK K
          try go_frame
          refine tt 28 44 (v := ?vbr28) rfl ?hbr28 hHeld ?rbr28
          case hbr28 => intro W hSw; go_simp; try with_reducible rfl
          go_frame
          refine tt 29 45 (v := ?vbr29) rfl ?hbr29 hHeld ?rbr29
          case hbr29 => intro W hSw; go_simp; try with_reducible rfl
          go_frame
          refine tt 30 46 (v := ?vbr30) rfl ?hbr30 hHeld ?rbr30
          case hbr30 => intro W hSw; go_simp; try with_reducible rfl
          go_frame
          refine tu 31 47 rfl hHeld ?_
          go_frame
          refine tu 32 48 rfl hHeld ?_
          go_frame
          refine tu 33 49 rfl hHeld ?_
          go_frame
          refine tt 34 50 (v := ?vbr34) rfl ?hbr34 hHeld ?rbr34
          case hbr34 => intro W hSw; go_simp; try with_reducible rfl
          go_frame
          refine wpAnyH_done (by kernel_rfl) ?_ _
          go_wp2
          go_ret
          rw [HF.out]
          exact ⟨rfl, hb.trans (Below.mono (hbN.trans (hb9.mono (by omega))) hzz)⟩
        · rw [hv] at hva hs
          by_cases hk9 : a.v.k = 0
          · have HF := Lib.hid (show prsB l = false by unfold prsB; rw [← hs, hk9]; simp)
            have hk8 : (a.v.k == 0) = true := by simp [hk9]
            clear hs hl hv hk9
            go_upto_region 5 with (refine wpList_store_new rfl 58 _ _ rfl _ rfl rfl _ _ (by kernel_rfl) (by kernel_rfl) (by kernel_rfl) ?_)
            try clear c0 c1 c2 c3
            refine wp_region_held_drew (S := fun w' => w'.cell? ⟨wr.heap.size, 0, none⟩ = some (.int .i64 a.v.k) ∧ w'.cell? ⟨wr.heap.size, 1, none⟩ = some (.float .f64 a.v.n) ∧ w'.cell? ⟨wr.heap.size, 2, none⟩ = some (.string a.v.t) ∧ w'.cell? (ad.add (k * 4)) = some (.string a.key)) (by kernel_rfl) ⟨x0, x1, x2, c0'⟩ (fun hHeld => ?_)
            refine tt 0 16 (v := ?vcr0) rfl ?hcr0 hHeld ?rcr0
            case hcr0 => intro W hSw; go_simp; try with_reducible rfl
            go_frame
            refine tt 1 17 (v := ?vcr1) rfl ?hcr1 hHeld ?rcr1
            case hcr1 => intro W hSw; go_simp; try with_reducible rfl
            go_frame
            refine tt 2 18 (v := ?vcr2) rfl ?hcr2 hHeld ?rcr2
            case hcr2 => intro W hSw; go_simp; try with_reducible rfl
            go_frame
            refine tt 3 19 (v := ?vcr3) rfl ?hcr3 hHeld ?rcr3
            case hcr3 => intro W hSw; go_simp; try with_reducible rfl
            go_frame
            refine tt 4 20 (v := ?vcr4) rfl ?hcr4 hHeld ?rcr4
            case hcr4 => intro W hSw; go_simp; try with_reducible rfl
            go_frame
            refine wpAnyH_ready (rs := [5]) (by kernel_rfl) (by simp) ?_
            refine AllReadyH.cons rfl (fun K hK => ?_) AllReadyH.nil
            go_simp
            (with_reducible refine (hka _).mono ?_)
            rintro e w4 ⟨rfl, rfl⟩
            refine hK.out _ _ ⟨x0, x1, x2, c0'⟩ (fun hHeld => ?_)
            clear hK K
            try go_frame
            refine tt 6 22 (v := ?vcr6) rfl ?hcr6 hHeld ?rcr6
            case hcr6 => intro W hSw; go_simp; try with_reducible rfl
            go_frame
            refine tt 7 23 (v := ?vcr7) rfl ?hcr7 hHeld ?rcr7
            case hcr7 => intro W hSw; go_simp; try with_reducible rfl
            go_frame
            refine tt 8 24 (v := ?vcr8) rfl ?hcr8 hHeld ?rcr8
            case hcr8 => intro W hSw; go_simp; try with_reducible rfl
            go_frame
            refine tt 9 25 (v := ?vcr9) rfl ?hcr9 hHeld ?rcr9
            case hcr9 => intro W hSw; go_simp; try with_reducible rfl
            go_frame
            refine tt 10 26 (v := ?vcr10) rfl ?hcr10 hHeld ?rcr10
            case hcr10 => intro W hSw; go_simp; try with_reducible rfl
            go_frame
            refine tu 11 27 rfl hHeld ?_
            go_frame
            refine tu 12 28 rfl hHeld ?_
            go_frame
            refine tu 13 29 rfl hHeld ?_
            go_frame
            refine tu 14 30 rfl hHeld ?_
            go_frame
            refine tu 15 31 rfl hHeld ?_
            go_frame
            refine tu 16 32 rfl hHeld ?_
            go_frame
            refine tu 17 33 rfl hHeld ?_
            go_frame
            refine tu 18 34 rfl hHeld ?_
            go_frame
            refine tu 19 35 rfl hHeld ?_
            go_frame
            refine tu 20 36 rfl hHeld ?_
            go_frame
            refine tu 21 37 rfl hHeld ?_
            go_frame
            refine tu 22 38 rfl hHeld ?_
            go_frame
            refine tt 23 39 (v := ?vcr23) rfl ?hcr23 hHeld ?rcr23
            case hcr23 => intro W hSw; go_simp; try with_reducible rfl
            go_frame
            refine tt 24 40 (v := ?vcr24) rfl ?hcr24 hHeld ?rcr24
            case hcr24 => intro W hSw; go_simp; try with_reducible rfl
            go_frame
            refine tt 25 41 (v := ?vcr25) rfl ?hcr25 hHeld ?rcr25
            case hcr25 => intro W hSw; go_simp; try with_reducible rfl
            go_frame
            refine tt 26 42 (v := ?vcr26) rfl ?hcr26 hHeld ?rcr26
            case hcr26 => intro W hSw; go_simp; try with_reducible rfl
            go_frame
            refine wpAnyH_ready (rs := [27]) (by kernel_rfl) (by simp) ?_
            refine AllReadyH.cons rfl (fun K hK => ?_) AllReadyH.nil
            go_simp
            (with_reducible refine (hva _).mono ?_)
            rintro e w5 ⟨rfl, hb5⟩
            have hb9 : Below (wr.heap.size + 1) (wr.alloc (.cells #[.int .i64 a.v.k, .float .f64 a.v.n, .string a.v.t] 58)) w5 := (Below.refl (wr.heap.size + 1) (wr.alloc (.cells #[.int .i64 a.v.k, .float .f64 a.v.n, .string a.v.t] 58))).drew.trans (hb5.mono (by simp))
            refine hK.out _ _ ⟨(hb9.cell (by exact lz)).trans x0, (hb9.cell (by exact lz)).trans x1, (hb9.cell (by exact lz)).trans x2, (hb9.cell (by exact hbz)).trans c0'⟩ (fun hHeld => ?_)
            clear hK K
            try go_frame
            refine tt 28 44 (v := ?vcr28) rfl ?hcr28 hHeld ?rcr28
            case hcr28 => intro W hSw; go_simp; try with_reducible rfl
            go_frame
            refine tt 29 45 (v := ?vcr29) rfl ?hcr29 hHeld ?rcr29
            case hcr29 => intro W hSw; go_simp; try with_reducible rfl
            go_frame
            refine tt 30 46 (v := ?vcr30) rfl ?hcr30 hHeld ?rcr30
            case hcr30 => intro W hSw; go_simp; try with_reducible rfl
            go_frame
            refine tt 31 47 (v := ?vcr31) rfl ?hcr31 hHeld ?rcr31
            case hcr31 => intro W hSw; go_simp; try with_reducible rfl
            go_frame
            refine tt 32 48 (v := ?vcr32) rfl ?hcr32 hHeld ?rcr32
            case hcr32 => intro W hSw; go_simp; try with_reducible rfl
            go_frame
            refine tt 33 49 (v := ?vcr33) rfl ?hcr33 hHeld ?rcr33
            case hcr33 => intro W hSw; go_simp; try with_reducible rfl
            go_frame
            refine tt 34 50 (v := ?vcr34) rfl ?hcr34 hHeld ?rcr34
            case hcr34 => intro W hSw; go_simp; try with_reducible rfl
            go_frame
            refine wpAnyH_done (by kernel_rfl) ?_ _
            go_wp2
            go_ret
            rw [HF.out]
            exact ⟨rfl, hb.trans (Below.mono (hbN.trans (hb9.mono (by omega))) hzz)⟩
          · have hk8 : (a.v.k == 0) = false := by simp [hk9]
            have HS := Lib.hid (show prsFrom (aheadW l (k + 1)) (l.drop (k + 1)) = prsFrom none l by rw [← hs, hk8]; simp)
            clear hs hl hv hk9
            go_upto_region 5 with (refine wpList_store_new rfl 58 _ _ rfl _ rfl rfl _ _ (by kernel_rfl) (by kernel_rfl) (by kernel_rfl) ?_)
            try clear c0 c1 c2 c3
            refine wp_region_held_drew (S := fun w' => w'.cell? ⟨wr.heap.size, 0, none⟩ = some (.int .i64 a.v.k) ∧ w'.cell? ⟨wr.heap.size, 1, none⟩ = some (.float .f64 a.v.n) ∧ w'.cell? ⟨wr.heap.size, 2, none⟩ = some (.string a.v.t) ∧ w'.cell? (ad.add (k * 4)) = some (.string a.key)) (by kernel_rfl) ⟨x0, x1, x2, c0'⟩ (fun hHeld => ?_)
            refine tt 0 16 (v := ?vdr0) rfl ?hdr0 hHeld ?rdr0
            case hdr0 => intro W hSw; go_simp; try with_reducible rfl
            go_frame
            refine tt 1 17 (v := ?vdr1) rfl ?hdr1 hHeld ?rdr1
            case hdr1 => intro W hSw; go_simp; try with_reducible rfl
            go_frame
            refine tt 2 18 (v := ?vdr2) rfl ?hdr2 hHeld ?rdr2
            case hdr2 => intro W hSw; go_simp; try with_reducible rfl
            go_frame
            refine tt 3 19 (v := ?vdr3) rfl ?hdr3 hHeld ?rdr3
            case hdr3 => intro W hSw; go_simp; try with_reducible rfl
            go_frame
            refine tt 4 20 (v := ?vdr4) rfl ?hdr4 hHeld ?rdr4
            case hdr4 => intro W hSw; go_simp; try with_reducible rfl
            go_frame
            refine wpAnyH_ready (rs := [5]) (by kernel_rfl) (by simp) ?_
            refine AllReadyH.cons rfl (fun K hK => ?_) AllReadyH.nil
            go_simp
            (with_reducible refine (hka _).mono ?_)
            rintro e w4 ⟨rfl, rfl⟩
            refine hK.out _ _ ⟨x0, x1, x2, c0'⟩ (fun hHeld => ?_)
            clear hK K
            try go_frame
            refine tt 6 22 (v := ?vdr6) rfl ?hdr6 hHeld ?rdr6
            case hdr6 => intro W hSw; go_simp; try with_reducible rfl
            go_frame
            refine tt 7 23 (v := ?vdr7) rfl ?hdr7 hHeld ?rdr7
            case hdr7 => intro W hSw; go_simp; try with_reducible rfl
            go_frame
            refine tt 8 24 (v := ?vdr8) rfl ?hdr8 hHeld ?rdr8
            case hdr8 => intro W hSw; go_simp; try with_reducible rfl
            go_frame
            refine tt 9 25 (v := ?vdr9) rfl ?hdr9 hHeld ?rdr9
            case hdr9 => intro W hSw; go_simp; try with_reducible rfl
            go_frame
            refine tt 10 26 (v := ?vdr10) rfl ?hdr10 hHeld ?rdr10
            case hdr10 => intro W hSw; go_simp; try with_reducible rfl
            go_frame
            refine tu 11 27 rfl hHeld ?_
            go_frame
            refine tu 12 28 rfl hHeld ?_
            go_frame
            refine tu 13 29 rfl hHeld ?_
            go_frame
            refine tu 14 30 rfl hHeld ?_
            go_frame
            refine tu 15 31 rfl hHeld ?_
            go_frame
            refine tu 16 32 rfl hHeld ?_
            go_frame
            refine tu 17 33 rfl hHeld ?_
            go_frame
            refine tu 18 34 rfl hHeld ?_
            go_frame
            refine tu 19 35 rfl hHeld ?_
            go_frame
            refine tu 20 36 rfl hHeld ?_
            go_frame
            refine tu 21 37 rfl hHeld ?_
            go_frame
            refine tu 22 38 rfl hHeld ?_
            go_frame
            refine tt 23 39 (v := ?vdr23) rfl ?hdr23 hHeld ?rdr23
            case hdr23 => intro W hSw; go_simp; try with_reducible rfl
            go_frame
            refine tt 24 40 (v := ?vdr24) rfl ?hdr24 hHeld ?rdr24
            case hdr24 => intro W hSw; go_simp; try with_reducible rfl
            go_frame
            refine tt 25 41 (v := ?vdr25) rfl ?hdr25 hHeld ?rdr25
            case hdr25 => intro W hSw; go_simp; try with_reducible rfl
            go_frame
            refine tt 26 42 (v := ?vdr26) rfl ?hdr26 hHeld ?rdr26
            case hdr26 => intro W hSw; go_simp; try with_reducible rfl
            go_frame
            refine wpAnyH_ready (rs := [27]) (by kernel_rfl) (by simp) ?_
            refine AllReadyH.cons rfl (fun K hK => ?_) AllReadyH.nil
            go_simp
            (with_reducible refine (hva _).mono ?_)
            rintro e w5 ⟨rfl, hb5⟩
            have hb9 : Below (wr.heap.size + 1) (wr.alloc (.cells #[.int .i64 a.v.k, .float .f64 a.v.n, .string a.v.t] 58)) w5 := (Below.refl (wr.heap.size + 1) (wr.alloc (.cells #[.int .i64 a.v.k, .float .f64 a.v.n, .string a.v.t] 58))).drew.trans (hb5.mono (by simp))
            refine hK.out _ _ ⟨(hb9.cell (by exact lz)).trans x0, (hb9.cell (by exact lz)).trans x1, (hb9.cell (by exact lz)).trans x2, (hb9.cell (by exact hbz)).trans c0'⟩ (fun hHeld => ?_)
            clear hK K
            try go_frame
            refine tt 28 44 (v := ?vdr28) rfl ?hdr28 hHeld ?rdr28
            case hdr28 => intro W hSw; go_simp; try with_reducible rfl
            go_frame
            refine tt 29 45 (v := ?vdr29) rfl ?hdr29 hHeld ?rdr29
            case hdr29 => intro W hSw; go_simp; try with_reducible rfl
            go_frame
            refine tt 30 46 (v := ?vdr30) rfl ?hdr30 hHeld ?rdr30
            case hdr30 => intro W hSw; go_simp; try with_reducible rfl
            go_frame
            refine tt 31 47 (v := ?vdr31) rfl ?hdr31 hHeld ?rdr31
            case hdr31 => intro W hSw; go_simp; try with_reducible rfl
            go_frame
            refine tt 32 48 (v := ?vdr32) rfl ?hdr32 hHeld ?rdr32
            case hdr32 => intro W hSw; go_simp; try with_reducible rfl
            go_frame
            refine tt 33 49 (v := ?vdr33) rfl ?hdr33 hHeld ?rdr33
            case hdr33 => intro W hSw; go_simp; try with_reducible rfl
            go_frame
            refine tt 34 50 (v := ?vdr34) rfl ?hdr34 hHeld ?rdr34
            case hdr34 => intro W hSw; go_simp; try with_reducible rfl
            go_frame
            refine wpAnyH_done (by kernel_rfl) ?_ _
            go_wp2
            go_roundw
            case rel => exact ⟨k + 1, by omega, by go_num, HS.out, hb.trans (Below.mono (hbN.trans (hb9.mono (by omega))) hzz)⟩
            case measure => simp [intOf]; omega
      · obtain ⟨ad', b, e', hb', hbk', hok', y0, -, -, -⟩ := ((h.below WtRel.kept hb).more WtRel.kept hb.size).wt (k := k - 1) (by omega)
        injection e' with e'
        subst e'
        have hd2 : decide (0 < k) = true := by simp; omega
        have hj0 : (0 : Int) ≤ (k : Int) - 1 := by omega
        have hj1 : (k : Int) - 1 < (n : Int) := by omega
        have hj2 : ((k : Int) - 1).toNat = k - 1 := by omega
        have hj3 : IntKind.i64.wrap ((k : Int) - 1) = (k : Int) - 1 := by rw [IntKind.wrap_i64]; omega
        have hj4 : (1 : Int) ≤ (k : Int) := by omega
        have hbz' : (ad.add ((k - 1) * 4)).block < wr.heap.size + 1 := by omega
        have y0' : (wr.alloc (.cells #[.int .i64 a.v.k, .float .f64 a.v.n, .string a.v.t] 58)).cell? (ad.add ((k - 1) * 4)) = some (.string b.key) := (hbN.cell hbk').trans y0
        have hah : aheadW l k = some b.key := by
          cases k with
          | zero => omega
          | succ j => show (l[j]?).map (·.key) = _; rw [show l[j]? = some b from hb']; rfl
        rw [hah] at hs
        change (true && bl b.key a.key && a.v.may && !(a.v.k == 0) && prsFrom (aheadW l (k + 1)) (l.drop (k + 1))) = prsFrom none l at hs
        have hle : (Op.bytesLess a.key.toList b.key.toList || a.key.toList == b.key.toList) = !bl b.key a.key := by rw [bl_le]; unfold leB; simp
        clear hz hah hb' hok'
        cases hbl : bl b.key a.key
        · have HF := Lib.hid (show prsB l = false by unfold prsB; rw [← hs]; simp [hbl])
          rw [hbl] at hle
          have hle' : (Op.bytesLess a.key.toList b.key.toList || a.key.toList == b.key.toList) = true := hle
          unfold bl at hbl
          clear hs hl hle
          go_upto_region 5 with (refine wpList_store_new rfl 58 _ _ rfl _ rfl rfl _ _ (by kernel_rfl) (by kernel_rfl) (by kernel_rfl) ?_)
          try clear c0 c1 c2 c3
          refine wp_region_held_drew (S := fun w' => w'.cell? ⟨wr.heap.size, 0, none⟩ = some (.int .i64 a.v.k) ∧ w'.cell? ⟨wr.heap.size, 1, none⟩ = some (.float .f64 a.v.n) ∧ w'.cell? ⟨wr.heap.size, 2, none⟩ = some (.string a.v.t) ∧ w'.cell? (ad.add (k * 4)) = some (.string a.key) ∧ w'.cell? (ad.add ((k - 1) * 4)) = some (.string b.key)) (by kernel_rfl) ⟨x0, x1, x2, c0', y0'⟩ (fun hHeld => ?_)
          refine tt 0 16 (v := ?ver0) rfl ?her0 hHeld ?rer0
          case her0 => intro W hSw; go_simp; try with_reducible rfl
          go_frame
          refine tt 1 17 (v := ?ver1) rfl ?her1 hHeld ?rer1
          case her1 => intro W hSw; go_simp; try with_reducible rfl
          go_frame
          refine tt 2 18 (v := ?ver2) rfl ?her2 hHeld ?rer2
          case her2 => intro W hSw; go_simp; try with_reducible rfl
          go_frame
          refine tt 3 19 (v := ?ver3) rfl ?her3 hHeld ?rer3
          case her3 => intro W hSw; go_simp; try with_reducible rfl
          go_frame
          refine tt 4 20 (v := ?ver4) rfl ?her4 hHeld ?rer4
          case her4 => intro W hSw; go_simp; try with_reducible rfl
          go_frame
          refine wpAnyH_ready (rs := [5]) (by kernel_rfl) (by simp) ?_
          refine AllReadyH.cons rfl (fun K hK => ?_) AllReadyH.nil
          go_simp
          (with_reducible refine (hka _).mono ?_)
          rintro e w4 ⟨rfl, rfl⟩
          refine hK.out _ _ ⟨x0, x1, x2, c0', y0'⟩ (fun hHeld => ?_)
          clear hK K
          try go_frame
          refine tt 6 22 (v := ?ver6) rfl ?her6 hHeld ?rer6
          case her6 => intro W hSw; go_simp; try with_reducible rfl
          go_frame
          refine tt 7 23 (v := ?ver7) rfl ?her7 hHeld ?rer7
          case her7 => intro W hSw; go_simp; try with_reducible rfl
          go_frame
          refine tt 8 24 (v := ?ver8) rfl ?her8 hHeld ?rer8
          case her8 => intro W hSw; go_simp; try with_reducible rfl
          go_frame
          refine tt 9 25 (v := ?ver9) rfl ?her9 hHeld ?rer9
          case her9 => intro W hSw; go_simp; try with_reducible rfl
          go_frame
          refine tt 10 26 (v := ?ver10) rfl ?her10 hHeld ?rer10
          case her10 => intro W hSw; go_simp; try with_reducible rfl
          go_frame
          refine tt 11 27 (v := ?ver11) rfl ?her11 hHeld ?rer11
          case her11 => intro W hSw; go_simp; try with_reducible rfl
          go_frame
          refine tt 12 28 (v := ?ver12) rfl ?her12 hHeld ?rer12
          case her12 => intro W hSw; go_simp; try with_reducible rfl
          go_frame
          refine tt 13 29 (v := ?ver13) rfl ?her13 hHeld ?rer13
          case her13 => intro W hSw; go_simp; try with_reducible rfl
          go_frame
          refine tt 14 30 (v := ?ver14) rfl ?her14 hHeld ?rer14
          case her14 => intro W hSw; go_simp; try with_reducible rfl
          go_frame
          refine tt 15 31 (v := ?ver15) rfl ?her15 hHeld ?rer15
          case her15 => intro W hSw; go_simp; try with_reducible rfl
          go_frame
          refine tt 16 32 (v := ?ver16) rfl ?her16 hHeld ?rer16
          case her16 => intro W hSw; go_simp; try with_reducible rfl
          go_frame
          refine tt 17 33 (v := ?ver17) rfl ?her17 hHeld ?rer17
          case her17 => intro W hSw; go_simp; try with_reducible rfl
          go_frame
          refine tt 18 34 (v := ?ver18) rfl ?her18 hHeld ?rer18
          case her18 => intro W hSw; go_simp; try with_reducible rfl
          go_frame
          refine tt 19 35 (v := ?ver19) rfl ?her19 hHeld ?rer19
          case her19 => intro W hSw; go_simp; try with_reducible rfl
          go_frame
          refine tt 20 36 (v := ?ver20) rfl ?her20 hHeld ?rer20
          case her20 => intro W hSw; go_simp; try with_reducible rfl
          go_frame
          refine tt 21 37 (v := ?ver21) rfl ?her21 hHeld ?rer21
          case her21 => intro W hSw; go_simp; try with_reducible rfl
          go_frame
          refine tt 22 38 (v := ?ver22) rfl ?her22 hHeld ?rer22
          case her22 => intro W hSw; go_simp; try with_reducible rfl
          go_frame
          refine tt 23 39 (v := ?ver23) rfl ?her23 hHeld ?rer23
          case her23 => intro W hSw; go_simp; try with_reducible rfl
          go_frame
          refine tt 24 40 (v := ?ver24) rfl ?her24 hHeld ?rer24
          case her24 => intro W hSw; go_simp; try with_reducible rfl
          go_frame
          refine tt 25 41 (v := ?ver25) rfl ?her25 hHeld ?rer25
          case her25 => intro W hSw; go_simp; try with_reducible rfl
          go_frame
          refine tu 26 42 rfl hHeld ?_
          go_frame
          refine tu 27 43 rfl hHeld ?_
          go_frame
          refine tu 28 44 rfl hHeld ?_
          go_frame
          refine tt 29 45 (v := ?ver29) rfl ?her29 hHeld ?rer29
          case her29 => intro W hSw; go_simp; try with_reducible rfl
          go_frame
          refine tt 30 46 (v := ?ver30) rfl ?her30 hHeld ?rer30
          case her30 => intro W hSw; go_simp; try with_reducible rfl
          go_frame
          refine tu 31 47 rfl hHeld ?_
          go_frame
          refine tu 32 48 rfl hHeld ?_
          go_frame
          refine tu 33 49 rfl hHeld ?_
          go_frame
          refine tt 34 50 (v := ?ver34) rfl ?her34 hHeld ?rer34
          case her34 => intro W hSw; go_simp; try with_reducible rfl
          go_frame
          refine wpAnyH_done (by kernel_rfl) ?_ _
          go_wp2
          go_ret
          rw [HF.out]
          exact ⟨rfl, hb.trans (Below.mono hbN.drew hzz)⟩
        · rw [hbl] at hs hle
          have hl1 : Op.bytesLess a.key.toList b.key.toList = false ∧ (a.key.toList == b.key.toList) = false := by simpa [Bool.or_eq_false_iff] using hle
          obtain ⟨hl2, hl3⟩ := hl1
          unfold bl at hbl
          clear hle
          cases hv : a.v.may
          · rw [hv] at hva hs
            have HF := Lib.hid (show prsB l = false by unfold prsB; rw [← hs]; simp)
            clear hs hl hv
            go_upto_region 5 with (refine wpList_store_new rfl 58 _ _ rfl _ rfl rfl _ _ (by kernel_rfl) (by kernel_rfl) (by kernel_rfl) ?_)
            try clear c0 c1 c2 c3
            refine wp_region_held_drew (S := fun w' => w'.cell? ⟨wr.heap.size, 0, none⟩ = some (.int .i64 a.v.k) ∧ w'.cell? ⟨wr.heap.size, 1, none⟩ = some (.float .f64 a.v.n) ∧ w'.cell? ⟨wr.heap.size, 2, none⟩ = some (.string a.v.t) ∧ w'.cell? (ad.add (k * 4)) = some (.string a.key) ∧ w'.cell? (ad.add ((k - 1) * 4)) = some (.string b.key)) (by kernel_rfl) ⟨x0, x1, x2, c0', y0'⟩ (fun hHeld => ?_)
            refine tt 0 16 (v := ?vfr0) rfl ?hfr0 hHeld ?rfr0
            case hfr0 => intro W hSw; go_simp; try with_reducible rfl
            go_frame
            refine tt 1 17 (v := ?vfr1) rfl ?hfr1 hHeld ?rfr1
            case hfr1 => intro W hSw; go_simp; try with_reducible rfl
            go_frame
            refine tt 2 18 (v := ?vfr2) rfl ?hfr2 hHeld ?rfr2
            case hfr2 => intro W hSw; go_simp; try with_reducible rfl
            go_frame
            refine tt 3 19 (v := ?vfr3) rfl ?hfr3 hHeld ?rfr3
            case hfr3 => intro W hSw; go_simp; try with_reducible rfl
            go_frame
            refine tt 4 20 (v := ?vfr4) rfl ?hfr4 hHeld ?rfr4
            case hfr4 => intro W hSw; go_simp; try with_reducible rfl
            go_frame
            refine wpAnyH_ready (rs := [5]) (by kernel_rfl) (by simp) ?_
            refine AllReadyH.cons rfl (fun K hK => ?_) AllReadyH.nil
            go_simp
            (with_reducible refine (hka _).mono ?_)
            rintro e w4 ⟨rfl, rfl⟩
            refine hK.out _ _ ⟨x0, x1, x2, c0', y0'⟩ (fun hHeld => ?_)
            clear hK K
            try go_frame
            refine tt 6 22 (v := ?vfr6) rfl ?hfr6 hHeld ?rfr6
            case hfr6 => intro W hSw; go_simp; try with_reducible rfl
            go_frame
            refine tt 7 23 (v := ?vfr7) rfl ?hfr7 hHeld ?rfr7
            case hfr7 => intro W hSw; go_simp; try with_reducible rfl
            go_frame
            refine tt 8 24 (v := ?vfr8) rfl ?hfr8 hHeld ?rfr8
            case hfr8 => intro W hSw; go_simp; try with_reducible rfl
            go_frame
            refine tt 9 25 (v := ?vfr9) rfl ?hfr9 hHeld ?rfr9
            case hfr9 => intro W hSw; go_simp; try with_reducible rfl
            go_frame
            refine tt 10 26 (v := ?vfr10) rfl ?hfr10 hHeld ?rfr10
            case hfr10 => intro W hSw; go_simp; try with_reducible rfl
            go_frame
            refine tt 11 27 (v := ?vfr11) rfl ?hfr11 hHeld ?rfr11
            case hfr11 => intro W hSw; go_simp; try with_reducible rfl
            go_frame
            refine tt 12 28 (v := ?vfr12) rfl ?hfr12 hHeld ?rfr12
            case hfr12 => intro W hSw; go_simp; try with_reducible rfl
            go_frame
            refine tt 13 29 (v := ?vfr13) rfl ?hfr13 hHeld ?rfr13
            case hfr13 => intro W hSw; go_simp; try with_reducible rfl
            go_frame
            refine tt 14 30 (v := ?vfr14) rfl ?hfr14 hHeld ?rfr14
            case hfr14 => intro W hSw; go_simp; try with_reducible rfl
            go_frame
            refine tt 15 31 (v := ?vfr15) rfl ?hfr15 hHeld ?rfr15
            case hfr15 => intro W hSw; go_simp; try with_reducible rfl
            go_frame
            refine tt 16 32 (v := ?vfr16) rfl ?hfr16 hHeld ?rfr16
            case hfr16 => intro W hSw; go_simp; try with_reducible rfl
            go_frame
            refine tt 17 33 (v := ?vfr17) rfl ?hfr17 hHeld ?rfr17
            case hfr17 => intro W hSw; go_simp; try with_reducible rfl
            go_frame
            refine tt 18 34 (v := ?vfr18) rfl ?hfr18 hHeld ?rfr18
            case hfr18 => intro W hSw; go_simp; try with_reducible rfl
            go_frame
            refine tt 19 35 (v := ?vfr19) rfl ?hfr19 hHeld ?rfr19
            case hfr19 => intro W hSw; go_simp; try with_reducible rfl
            go_frame
            refine tt 20 36 (v := ?vfr20) rfl ?hfr20 hHeld ?rfr20
            case hfr20 => intro W hSw; go_simp; try with_reducible rfl
            go_frame
            refine tt 21 37 (v := ?vfr21) rfl ?hfr21 hHeld ?rfr21
            case hfr21 => intro W hSw; go_simp; try with_reducible rfl
            go_frame
            refine tt 22 38 (v := ?vfr22) rfl ?hfr22 hHeld ?rfr22
            case hfr22 => intro W hSw; go_simp; try with_reducible rfl
            go_frame
            refine tt 23 39 (v := ?vfr23) rfl ?hfr23 hHeld ?rfr23
            case hfr23 => intro W hSw; go_simp; try with_reducible rfl
            go_frame
            refine tt 24 40 (v := ?vfr24) rfl ?hfr24 hHeld ?rfr24
            case hfr24 => intro W hSw; go_simp; try with_reducible rfl
            go_frame
            refine tt 25 41 (v := ?vfr25) rfl ?hfr25 hHeld ?rfr25
            case hfr25 => intro W hSw; go_simp; try with_reducible rfl
            go_frame
            refine tt 26 42 (v := ?vfr26) rfl ?hfr26 hHeld ?rfr26
            case hfr26 => intro W hSw; go_simp; try with_reducible rfl
            go_frame
            refine wpAnyH_ready (rs := [27]) (by kernel_rfl) (by simp) ?_
            refine AllReadyH.cons rfl (fun K hK => ?_) AllReadyH.nil
            go_simp
            (with_reducible refine (hva _).mono ?_)
            rintro e w5 ⟨rfl, hb5⟩
            have hb9 : Below (wr.heap.size + 1) (wr.alloc (.cells #[.int .i64 a.v.k, .float .f64 a.v.n, .string a.v.t] 58)) w5 := (Below.refl (wr.heap.size + 1) (wr.alloc (.cells #[.int .i64 a.v.k, .float .f64 a.v.n, .string a.v.t] 58))).drew.trans (hb5.mono (by simp))
            refine hK.out _ _ ⟨(hb9.cell (by exact lz)).trans x0, (hb9.cell (by exact lz)).trans x1, (hb9.cell (by exact lz)).trans x2, (hb9.cell (by exact hbz)).trans c0', (hb9.cell (by exact hbz')).trans y0'⟩ (fun hHeld => ?_)
            clear hK K
            try go_frame
            refine tt 28 44 (v := ?vfr28) rfl ?hfr28 hHeld ?rfr28
            case hfr28 => intro W hSw; go_simp; try with_reducible rfl
            go_frame
            refine tt 29 45 (v := ?vfr29) rfl ?hfr29 hHeld ?rfr29
            case hfr29 => intro W hSw; go_simp; try with_reducible rfl
            go_frame
            refine tt 30 46 (v := ?vfr30) rfl ?hfr30 hHeld ?rfr30
            case hfr30 => intro W hSw; go_simp; try with_reducible rfl
            go_frame
            refine tu 31 47 rfl hHeld ?_
            go_frame
            refine tu 32 48 rfl hHeld ?_
            go_frame
            refine tu 33 49 rfl hHeld ?_
            go_frame
            refine tt 34 50 (v := ?vfr34) rfl ?hfr34 hHeld ?rfr34
            case hfr34 => intro W hSw; go_simp; try with_reducible rfl
            go_frame
            refine wpAnyH_done (by kernel_rfl) ?_ _
            go_wp2
            go_ret
            rw [HF.out]
            exact ⟨rfl, hb.trans (Below.mono (hbN.trans (hb9.mono (by omega))) hzz)⟩
          · rw [hv] at hva hs
            by_cases hk9 : a.v.k = 0
            · have HF := Lib.hid (show prsB l = false by unfold prsB; rw [← hs, hk9]; simp)
              have hk8 : (a.v.k == 0) = true := by simp [hk9]
              clear hs hl hv hk9
              go_upto_region 5 with (refine wpList_store_new rfl 58 _ _ rfl _ rfl rfl _ _ (by kernel_rfl) (by kernel_rfl) (by kernel_rfl) ?_)
              try clear c0 c1 c2 c3
              refine wp_region_held_drew (S := fun w' => w'.cell? ⟨wr.heap.size, 0, none⟩ = some (.int .i64 a.v.k) ∧ w'.cell? ⟨wr.heap.size, 1, none⟩ = some (.float .f64 a.v.n) ∧ w'.cell? ⟨wr.heap.size, 2, none⟩ = some (.string a.v.t) ∧ w'.cell? (ad.add (k * 4)) = some (.string a.key) ∧ w'.cell? (ad.add ((k - 1) * 4)) = some (.string b.key)) (by kernel_rfl) ⟨x0, x1, x2, c0', y0'⟩ (fun hHeld => ?_)
              refine tt 0 16 (v := ?vgr0) rfl ?hgr0 hHeld ?rgr0
              case hgr0 => intro W hSw; go_simp; try with_reducible rfl
              go_frame
              refine tt 1 17 (v := ?vgr1) rfl ?hgr1 hHeld ?rgr1
              case hgr1 => intro W hSw; go_simp; try with_reducible rfl
              go_frame
              refine tt 2 18 (v := ?vgr2) rfl ?hgr2 hHeld ?rgr2
              case hgr2 => intro W hSw; go_simp; try with_reducible rfl
              go_frame
              refine tt 3 19 (v := ?vgr3) rfl ?hgr3 hHeld ?rgr3
              case hgr3 => intro W hSw; go_simp; try with_reducible rfl
              go_frame
              refine tt 4 20 (v := ?vgr4) rfl ?hgr4 hHeld ?rgr4
              case hgr4 => intro W hSw; go_simp; try with_reducible rfl
              go_frame
              refine wpAnyH_ready (rs := [5]) (by kernel_rfl) (by simp) ?_
              refine AllReadyH.cons rfl (fun K hK => ?_) AllReadyH.nil
              go_simp
              (with_reducible refine (hka _).mono ?_)
              rintro e w4 ⟨rfl, rfl⟩
              refine hK.out _ _ ⟨x0, x1, x2, c0', y0'⟩ (fun hHeld => ?_)
              clear hK K
              try go_frame
              refine tt 6 22 (v := ?vgr6) rfl ?hgr6 hHeld ?rgr6
              case hgr6 => intro W hSw; go_simp; try with_reducible rfl
              go_frame
              refine tt 7 23 (v := ?vgr7) rfl ?hgr7 hHeld ?rgr7
              case hgr7 => intro W hSw; go_simp; try with_reducible rfl
              go_frame
              refine tt 8 24 (v := ?vgr8) rfl ?hgr8 hHeld ?rgr8
              case hgr8 => intro W hSw; go_simp; try with_reducible rfl
              go_frame
              refine tt 9 25 (v := ?vgr9) rfl ?hgr9 hHeld ?rgr9
              case hgr9 => intro W hSw; go_simp; try with_reducible rfl
              go_frame
              refine tt 10 26 (v := ?vgr10) rfl ?hgr10 hHeld ?rgr10
              case hgr10 => intro W hSw; go_simp; try with_reducible rfl
              go_frame
              refine tt 11 27 (v := ?vgr11) rfl ?hgr11 hHeld ?rgr11
              case hgr11 => intro W hSw; go_simp; try with_reducible rfl
              go_frame
              refine tt 12 28 (v := ?vgr12) rfl ?hgr12 hHeld ?rgr12
              case hgr12 => intro W hSw; go_simp; try with_reducible rfl
              go_frame
              refine tt 13 29 (v := ?vgr13) rfl ?hgr13 hHeld ?rgr13
              case hgr13 => intro W hSw; go_simp; try with_reducible rfl
              go_frame
              refine tt 14 30 (v := ?vgr14) rfl ?hgr14 hHeld ?rgr14
              case hgr14 => intro W hSw; go_simp; try with_reducible rfl
              go_frame
              refine tt 15 31 (v := ?vgr15) rfl ?hgr15 hHeld ?rgr15
              case hgr15 => intro W hSw; go_simp; try with_reducible rfl
              go_frame
              refine tt 16 32 (v := ?vgr16) rfl ?hgr16 hHeld ?rgr16
              case hgr16 => intro W hSw; go_simp; try with_reducible rfl
              go_frame
              refine tt 17 33 (v := ?vgr17) rfl ?hgr17 hHeld ?rgr17
              case hgr17 => intro W hSw; go_simp; try with_reducible rfl
              go_frame
              refine tt 18 34 (v := ?vgr18) rfl ?hgr18 hHeld ?rgr18
              case hgr18 => intro W hSw; go_simp; try with_reducible rfl
              go_frame
              refine tt 19 35 (v := ?vgr19) rfl ?hgr19 hHeld ?rgr19
              case hgr19 => intro W hSw; go_simp; try with_reducible rfl
              go_frame
              refine tt 20 36 (v := ?vgr20) rfl ?hgr20 hHeld ?rgr20
              case hgr20 => intro W hSw; go_simp; try with_reducible rfl
              go_frame
              refine tt 21 37 (v := ?vgr21) rfl ?hgr21 hHeld ?rgr21
              case hgr21 => intro W hSw; go_simp; try with_reducible rfl
              go_frame
              refine tt 22 38 (v := ?vgr22) rfl ?hgr22 hHeld ?rgr22
              case hgr22 => intro W hSw; go_simp; try with_reducible rfl
              go_frame
              refine tt 23 39 (v := ?vgr23) rfl ?hgr23 hHeld ?rgr23
              case hgr23 => intro W hSw; go_simp; try with_reducible rfl
              go_frame
              refine tt 24 40 (v := ?vgr24) rfl ?hgr24 hHeld ?rgr24
              case hgr24 => intro W hSw; go_simp; try with_reducible rfl
              go_frame
              refine tt 25 41 (v := ?vgr25) rfl ?hgr25 hHeld ?rgr25
              case hgr25 => intro W hSw; go_simp; try with_reducible rfl
              go_frame
              refine tt 26 42 (v := ?vgr26) rfl ?hgr26 hHeld ?rgr26
              case hgr26 => intro W hSw; go_simp; try with_reducible rfl
              go_frame
              refine wpAnyH_ready (rs := [27]) (by kernel_rfl) (by simp) ?_
              refine AllReadyH.cons rfl (fun K hK => ?_) AllReadyH.nil
              go_simp
              (with_reducible refine (hva _).mono ?_)
              rintro e w5 ⟨rfl, hb5⟩
              have hb9 : Below (wr.heap.size + 1) (wr.alloc (.cells #[.int .i64 a.v.k, .float .f64 a.v.n, .string a.v.t] 58)) w5 := (Below.refl (wr.heap.size + 1) (wr.alloc (.cells #[.int .i64 a.v.k, .float .f64 a.v.n, .string a.v.t] 58))).drew.trans (hb5.mono (by simp))
              refine hK.out _ _ ⟨(hb9.cell (by exact lz)).trans x0, (hb9.cell (by exact lz)).trans x1, (hb9.cell (by exact lz)).trans x2, (hb9.cell (by exact hbz)).trans c0', (hb9.cell (by exact hbz')).trans y0'⟩ (fun hHeld => ?_)
              clear hK K
              try go_frame
              refine tt 28 44 (v := ?vgr28) rfl ?hgr28 hHeld ?rgr28
              case hgr28 => intro W hSw; go_simp; try with_reducible rfl
              go_frame
              refine tt 29 45 (v := ?vgr29) rfl ?hgr29 hHeld ?rgr29
              case hgr29 => intro W hSw; go_simp; try with_reducible rfl
              go_frame
              refine tt 30 46 (v := ?vgr30) rfl ?hgr30 hHeld ?rgr30
              case hgr30 => intro W hSw; go_simp; try with_reducible rfl
              go_frame
              refine tt 31 47 (v := ?vgr31) rfl ?hgr31 hHeld ?rgr31
              case hgr31 => intro W hSw; go_simp; try with_reducible rfl
              go_frame
              refine tt 32 48 (v := ?vgr32) rfl ?hgr32 hHeld ?rgr32
              case hgr32 => intro W hSw; go_simp; try with_reducible rfl
              go_frame
              refine tt 33 49 (v := ?vgr33) rfl ?hgr33 hHeld ?rgr33
              case hgr33 => intro W hSw; go_simp; try with_reducible rfl
              go_frame
              refine tt 34 50 (v := ?vgr34) rfl ?hgr34 hHeld ?rgr34
              case hgr34 => intro W hSw; go_simp; try with_reducible rfl
              go_frame
              refine wpAnyH_done (by kernel_rfl) ?_ _
              go_wp2
              go_ret
              rw [HF.out]
              exact ⟨rfl, hb.trans (Below.mono (hbN.trans (hb9.mono (by omega))) hzz)⟩
            · have hk8 : (a.v.k == 0) = false := by simp [hk9]
              have HS := Lib.hid (show prsFrom (aheadW l (k + 1)) (l.drop (k + 1)) = prsFrom none l by rw [← hs, hk8]; simp)
              clear hs hl hv hk9
              go_upto_region 5 with (refine wpList_store_new rfl 58 _ _ rfl _ rfl rfl _ _ (by kernel_rfl) (by kernel_rfl) (by kernel_rfl) ?_)
              try clear c0 c1 c2 c3
              refine wp_region_held_drew (S := fun w' => w'.cell? ⟨wr.heap.size, 0, none⟩ = some (.int .i64 a.v.k) ∧ w'.cell? ⟨wr.heap.size, 1, none⟩ = some (.float .f64 a.v.n) ∧ w'.cell? ⟨wr.heap.size, 2, none⟩ = some (.string a.v.t) ∧ w'.cell? (ad.add (k * 4)) = some (.string a.key) ∧ w'.cell? (ad.add ((k - 1) * 4)) = some (.string b.key)) (by kernel_rfl) ⟨x0, x1, x2, c0', y0'⟩ (fun hHeld => ?_)
              refine tt 0 16 (v := ?vhr0) rfl ?hhr0 hHeld ?rhr0
              case hhr0 => intro W hSw; go_simp; try with_reducible rfl
              go_frame
              refine tt 1 17 (v := ?vhr1) rfl ?hhr1 hHeld ?rhr1
              case hhr1 => intro W hSw; go_simp; try with_reducible rfl
              go_frame
              refine tt 2 18 (v := ?vhr2) rfl ?hhr2 hHeld ?rhr2
              case hhr2 => intro W hSw; go_simp; try with_reducible rfl
              go_frame
              refine tt 3 19 (v := ?vhr3) rfl ?hhr3 hHeld ?rhr3
              case hhr3 => intro W hSw; go_simp; try with_reducible rfl
              go_frame
              refine tt 4 20 (v := ?vhr4) rfl ?hhr4 hHeld ?rhr4
              case hhr4 => intro W hSw; go_simp; try with_reducible rfl
              go_frame
              refine wpAnyH_ready (rs := [5]) (by kernel_rfl) (by simp) ?_
              refine AllReadyH.cons rfl (fun K hK => ?_) AllReadyH.nil
              go_simp
              (with_reducible refine (hka _).mono ?_)
              rintro e w4 ⟨rfl, rfl⟩
              refine hK.out _ _ ⟨x0, x1, x2, c0', y0'⟩ (fun hHeld => ?_)
              clear hK K
              try go_frame
              refine tt 6 22 (v := ?vhr6) rfl ?hhr6 hHeld ?rhr6
              case hhr6 => intro W hSw; go_simp; try with_reducible rfl
              go_frame
              refine tt 7 23 (v := ?vhr7) rfl ?hhr7 hHeld ?rhr7
              case hhr7 => intro W hSw; go_simp; try with_reducible rfl
              go_frame
              refine tt 8 24 (v := ?vhr8) rfl ?hhr8 hHeld ?rhr8
              case hhr8 => intro W hSw; go_simp; try with_reducible rfl
              go_frame
              refine tt 9 25 (v := ?vhr9) rfl ?hhr9 hHeld ?rhr9
              case hhr9 => intro W hSw; go_simp; try with_reducible rfl
              go_frame
              refine tt 10 26 (v := ?vhr10) rfl ?hhr10 hHeld ?rhr10
              case hhr10 => intro W hSw; go_simp; try with_reducible rfl
              go_frame
              refine tt 11 27 (v := ?vhr11) rfl ?hhr11 hHeld ?rhr11
              case hhr11 => intro W hSw; go_simp; try with_reducible rfl
              go_frame
              refine tt 12 28 (v := ?vhr12) rfl ?hhr12 hHeld ?rhr12
              case hhr12 => intro W hSw; go_simp; try with_reducible rfl
              go_frame
              refine tt 13 29 (v := ?vhr13) rfl ?hhr13 hHeld ?rhr13
              case hhr13 => intro W hSw; go_simp; try with_reducible rfl
              go_frame
              refine tt 14 30 (v := ?vhr14) rfl ?hhr14 hHeld ?rhr14
              case hhr14 => intro W hSw; go_simp; try with_reducible rfl
              go_frame
              refine tt 15 31 (v := ?vhr15) rfl ?hhr15 hHeld ?rhr15
              case hhr15 => intro W hSw; go_simp; try with_reducible rfl
              go_frame
              refine tt 16 32 (v := ?vhr16) rfl ?hhr16 hHeld ?rhr16
              case hhr16 => intro W hSw; go_simp; try with_reducible rfl
              go_frame
              refine tt 17 33 (v := ?vhr17) rfl ?hhr17 hHeld ?rhr17
              case hhr17 => intro W hSw; go_simp; try with_reducible rfl
              go_frame
              refine tt 18 34 (v := ?vhr18) rfl ?hhr18 hHeld ?rhr18
              case hhr18 => intro W hSw; go_simp; try with_reducible rfl
              go_frame
              refine tt 19 35 (v := ?vhr19) rfl ?hhr19 hHeld ?rhr19
              case hhr19 => intro W hSw; go_simp; try with_reducible rfl
              go_frame
              refine tt 20 36 (v := ?vhr20) rfl ?hhr20 hHeld ?rhr20
              case hhr20 => intro W hSw; go_simp; try with_reducible rfl
              go_frame
              refine tt 21 37 (v := ?vhr21) rfl ?hhr21 hHeld ?rhr21
              case hhr21 => intro W hSw; go_simp; try with_reducible rfl
              go_frame
              refine tt 22 38 (v := ?vhr22) rfl ?hhr22 hHeld ?rhr22
              case hhr22 => intro W hSw; go_simp; try with_reducible rfl
              go_frame
              refine tt 23 39 (v := ?vhr23) rfl ?hhr23 hHeld ?rhr23
              case hhr23 => intro W hSw; go_simp; try with_reducible rfl
              go_frame
              refine tt 24 40 (v := ?vhr24) rfl ?hhr24 hHeld ?rhr24
              case hhr24 => intro W hSw; go_simp; try with_reducible rfl
              go_frame
              refine tt 25 41 (v := ?vhr25) rfl ?hhr25 hHeld ?rhr25
              case hhr25 => intro W hSw; go_simp; try with_reducible rfl
              go_frame
              refine tt 26 42 (v := ?vhr26) rfl ?hhr26 hHeld ?rhr26
              case hhr26 => intro W hSw; go_simp; try with_reducible rfl
              go_frame
              refine wpAnyH_ready (rs := [27]) (by kernel_rfl) (by simp) ?_
              refine AllReadyH.cons rfl (fun K hK => ?_) AllReadyH.nil
              go_simp
              (with_reducible refine (hva _).mono ?_)
              rintro e w5 ⟨rfl, hb5⟩
              have hb9 : Below (wr.heap.size + 1) (wr.alloc (.cells #[.int .i64 a.v.k, .float .f64 a.v.n, .string a.v.t] 58)) w5 := (Below.refl (wr.heap.size + 1) (wr.alloc (.cells #[.int .i64 a.v.k, .float .f64 a.v.n, .string a.v.t] 58))).drew.trans (hb5.mono (by simp))
              refine hK.out _ _ ⟨(hb9.cell (by exact lz)).trans x0, (hb9.cell (by exact lz)).trans x1, (hb9.cell (by exact lz)).trans x2, (hb9.cell (by exact hbz)).trans c0', (hb9.cell (by exact hbz')).trans y0'⟩ (fun hHeld => ?_)
              clear hK K
              try go_frame
              refine tt 28 44 (v := ?vhr28) rfl ?hhr28 hHeld ?rhr28
              case hhr28 => intro W hSw; go_simp; try with_reducible rfl
              go_frame
              refine tt 29 45 (v := ?vhr29) rfl ?hhr29 hHeld ?rhr29
              case hhr29 => intro W hSw; go_simp; try with_reducible rfl
              go_frame
              refine tt 30 46 (v := ?vhr30) rfl ?hhr30 hHeld ?rhr30
              case hhr30 => intro W hSw; go_simp; try with_reducible rfl
              go_frame
              refine tt 31 47 (v := ?vhr31) rfl ?hhr31 hHeld ?rhr31
              case hhr31 => intro W hSw; go_simp; try with_reducible rfl
              go_frame
              refine tt 32 48 (v := ?vhr32) rfl ?hhr32 hHeld ?rhr32
              case hhr32 => intro W hSw; go_simp; try with_reducible rfl
              go_frame
              refine tt 33 49 (v := ?vhr33) rfl ?hhr33 hHeld ?rhr33
              case hhr33 => intro W hSw; go_simp; try with_reducible rfl
              go_frame
              refine tt 34 50 (v := ?vhr34) rfl ?hhr34 hHeld ?rhr34
              case hhr34 => intro W hSw; go_simp; try with_reducible rfl
              go_frame
              refine wpAnyH_done (by kernel_rfl) ?_ _
              go_wp2
              go_roundw
              case rel => exact ⟨k + 1, by omega, by go_num, HS.out, hb.trans (Below.mono (hbN.trans (hb9.mono (by omega))) hzz)⟩
              case measure => simp [intOf]; omega
  · have hd1 : decide ((k : Int) < (n : Int)) = false := by simp; omega
    have HS := Lib.hid (show prsB l = true by unfold prsB; rw [← hs, List.drop_of_length_le (by omega)]; rfl)
    clear hs hl
    go_wp2
    go_ret
    rw [HS.out]
    exact ⟨rfl, hb⟩
end Go.Proofs.YthdmanadhbpogaaGreat
