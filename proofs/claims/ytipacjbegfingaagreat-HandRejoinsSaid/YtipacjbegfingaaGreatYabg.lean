/- The walks of the document's Writes and PendingMay. -/
import Derived.Test.YtipacjbegfingaaGreatYabe
import Derived.Test.YtipacjbegfingaaGreatYabf
namespace Go.Proofs.YtipacjbegfingaaGreat
set_option linter.unusedVariables false
open Go.RowKit Fl
attribute [local go_sem] run_store_float

def wrsFrom : Option ByteArray → List Wt → Bool
  | _, [] => true
  | p, a :: l => keyB a.key && (match p with | none => true | some q => bl q a.key) && a.v.may && wrsFrom (some a.key) l
theorem wrsFrom_eq : ∀ (l : List Wt) (p : Option ByteArray), wrsFrom p l = (riseFrom p (l.map (·.key)) && allMay l) := by
  intro l
  induction l with
  | nil => intro p; rfl
  | cons a l ih =>
    intro p
    cases p with
    | none =>
      show (keyB a.key && true && a.v.may && wrsFrom (some a.key) l) = ((keyB a.key && true && riseFrom (some a.key) (l.map (·.key))) && (a.v.may && allMay l))
      rw [ih]
      cases keyB a.key <;> cases a.v.may <;> cases riseFrom (some a.key) (l.map (·.key)) <;> cases allMay l <;> rfl
    | some q =>
      show (keyB a.key && bl q a.key && a.v.may && wrsFrom (some a.key) l) = ((keyB a.key && bl q a.key && riseFrom (some a.key) (l.map (·.key))) && (a.v.may && allMay l))
      rw [ih]
      cases keyB a.key <;> cases bl q a.key <;> cases a.v.may <;> cases riseFrom (some a.key) (l.map (·.key)) <;> cases allMay l <;> rfl
/-- may these writes be? -/
def wrsB (l : List Wt) : Bool := riseB (l.map (·.key)) && allMay l
theorem wrsB_eq (l : List Wt) : wrsB l = (wrsFrom none l && decide ((l.length : Int) ≤ 16)) := by
  unfold wrsB riseB
  rw [wrsFrom_eq, List.length_map]
  cases riseFrom none (l.map (·.key)) <;> cases allMay l <;> simp
/-- the key ahead of place k -/
def aheadW (l : List Wt) : Nat → Option ByteArray
  | 0 => none
  | k + 1 => (l[k]?).map (·.key)
theorem wrsFrom_drop {l : List Wt} {k : Nat} {a : Wt} (h : l[k]? = some a) :
    wrsFrom (aheadW l k) (l.drop k) = (keyB a.key && (match aheadW l k with | none => true | some q => bl q a.key) && a.v.may && wrsFrom (aheadW l (k + 1)) (l.drop (k + 1))) := by
  have h1 := List.getElem?_eq_some_iff.1 h
  rw [List.drop_eq_getElem_cons h1.1, h1.2, show aheadW l (k + 1) = some a.key from by show (l[k]?).map (·.key) = _; rw [h]; rfl]
  rfl
def WrsRel (l : List Wt) (w : World) (i : Value) (wr : World) : Prop := ∃ k : Nat, k ≤ l.length ∧ i = .int .i64 (k : Int) ∧ wrsFrom (aheadW l k) (l.drop k) = wrsFrom none l ∧ Below w.heap.size w wr
set_option maxRecDepth 100000 in
set_option maxHeartbeats 4000000 in
theorem rwrs_any (A : Option Addr) (n c : Nat) (l : List Wt) (w : World) (h : Sl WtRel 4 w w.heap.size A n l) (hn : n ≤ maxLen) :
    Calls Tryz.prog 98 #[.slice A n c, .int .i64 16] w fun e w' => e = .returned (.bool (wrsB l)) ∧ Below w.heap.size w w' := by
  unfold maxLen at hn
  have hl := h.1
  have hge : n ≤ l.length := by omega
  by_cases hbig : (n : Int) ≤ 16
  · have hb0 : decide ((16 : Int) < (n : Int)) = false := by simp; omega
    have hrb : wrsB l = wrsFrom none l := by rw [wrsB_eq, hl]; simp [hbig]
    go_enter Tryz.func98, Tryz.ntmps98
    go_wp2
    go_loopw [5] (fun i wr => WrsRel l w i wr) (fun i _ => n - (intOf i).toNat)
    case atStart => exact ⟨0, by omega, rfl, rfl, Below.refl _ _⟩
    case round =>
      obtain ⟨k, hk, rfl, hs, hb⟩ := hrel
      have hzz := hb.size
      by_cases hlt : k < n
      · obtain ⟨ad, a, rfl, ha, hbk, hok, c0, c1, c2, c3⟩ := ((h.below WtRel.kept hb).more WtRel.kept hb.size).wt hlt
        have hka := fun w => rkey_any a.key w
        have hva := fun w => rvmay_any a.v w
        have hd1 : decide ((k : Int) < (n : Int)) = true := by simp; omega
        have hk0 : (0 : Int) ≤ (k : Int) := by omega
        have hk1 : (k : Int) < (n : Int) := by omega
        rw [wrsFrom_drop ha] at hs
        cases hkb : keyB a.key
        · rw [hkb] at hka hs
          have HF := Lib.hid (show wrsB l = false by rw [hrb, ← hs]; rfl)
          clear hs ha hl
          go_wp2
          go_quiet (first | (go_at_call 64; exact quietSame (hka _)))
          go_wp2
          go_ret
          rw [HF.out]
          exact ⟨rfl, hb.trans ((belowN _).mono hzz)⟩
        · rw [hkb] at hka hs
          by_cases hz : k = 0
          · have hd2 : decide (0 < k) = false := by simp; omega
            have hs' : (a.v.may && wrsFrom (aheadW l (k + 1)) (l.drop (k + 1))) = wrsFrom none l := by rw [← hs, hz]; simp [aheadW]
            clear hs ha hz
            cases hv : a.v.may
            · rw [hv] at hva hs'
              have HF := Lib.hid (show wrsB l = false by rw [hrb, ← hs']; rfl)
              clear hs' hl hv
              go_wp2
              refine wp_region_held_drew (S := fun w' => w'.cell? (ad.add (k * 4)) = some (.string a.key) ∧ w'.cell? ⟨(ad.add (k * 4)).block, (ad.add (k * 4)).off + 1, none⟩ = some (.int .i64 a.v.k) ∧ w'.cell? ⟨(ad.add (k * 4)).block, (ad.add (k * 4)).off + 2, none⟩ = some (.float .f64 a.v.n) ∧ w'.cell? ⟨(ad.add (k * 4)).block, (ad.add (k * 4)).off + 3, none⟩ = some (.string a.v.t)) (by kernel_rfl) ⟨c0, c1, c2, c3⟩ (fun hHeld => ?_)
              refine wpAnyH_take (i := 0) (oi := ⟨some 16, _, _, _, _, _⟩) (v := ?va0) rfl (by kernel_rfl) (by kernel_rfl) (by kernel_rfl) (fun _ _ _ h => h) (Or.inl ⟨by kernel_rfl, ?ha0⟩) hHeld ?ra0
              case ha0 =>
                intro W hSw
                go_simp
                try with_reducible rfl
              go_frame
              refine wpAnyH_take (i := 1) (oi := ⟨some 17, _, _, _, _, _⟩) (v := ?va1) rfl (by kernel_rfl) (by kernel_rfl) (by kernel_rfl) (fun _ _ _ h => h) (Or.inl ⟨by kernel_rfl, ?ha1⟩) hHeld ?ra1
              case ha1 =>
                intro W hSw
                go_simp
                try with_reducible rfl
              go_frame
              refine wpAnyH_take (i := 2) (oi := ⟨some 18, _, _, _, _, _⟩) (v := ?va2) rfl (by kernel_rfl) (by kernel_rfl) (by kernel_rfl) (fun _ _ _ h => h) (Or.inl ⟨by kernel_rfl, ?ha2⟩) hHeld ?ra2
              case ha2 =>
                intro W hSw
                go_simp
                try with_reducible rfl
              go_frame
              refine wpAnyH_take (i := 3) (oi := ⟨some 19, _, _, _, _, _⟩) (v := ?va3) rfl (by kernel_rfl) (by kernel_rfl) (by kernel_rfl) (fun _ _ _ h => h) (Or.inl ⟨by kernel_rfl, ?ha3⟩) hHeld ?ra3
              case ha3 =>
                intro W hSw
                go_simp
                try with_reducible rfl
              go_frame
              refine wpAnyH_take (i := 4) (oi := ⟨some 20, _, _, _, _, _⟩) (v := ?va4) rfl (by kernel_rfl) (by kernel_rfl) (by kernel_rfl) (fun _ _ _ h => h) (Or.inl ⟨by kernel_rfl, ?ha4⟩) hHeld ?ra4
              case ha4 =>
                intro W hSw
                go_simp
                try with_reducible rfl
              go_frame
              refine wpAnyH_ready (rs := [5]) (by kernel_rfl) (by simp) ?_
              refine AllReadyH.cons rfl (fun K hK => ?_) AllReadyH.nil
              go_simp
              (with_reducible refine (hka _).mono ?_)
              rintro e w4 ⟨rfl, rfl⟩
              refine hK.out _ _ ⟨c0, c1, c2, c3⟩ (fun hHeld => ?_)
              clear hK K
              try go_frame
              refine wpAnyH_take (i := 6) (oi := ⟨some 22, _, _, _, _, _⟩) (v := ?va6) rfl (by kernel_rfl) (by kernel_rfl) (by kernel_rfl) (fun _ _ _ h => h) (Or.inl ⟨by kernel_rfl, ?ha6⟩) hHeld ?ra6
              case ha6 =>
                intro W hSw
                go_simp
                try with_reducible rfl
              go_frame
              refine wpAnyH_take (i := 7) (oi := ⟨some 23, _, _, _, _, _⟩) (v := ?va7) rfl (by kernel_rfl) (by kernel_rfl) (by kernel_rfl) (fun _ _ _ h => h) (Or.inl ⟨by kernel_rfl, ?ha7⟩) hHeld ?ra7
              case ha7 =>
                intro W hSw
                go_simp
                try with_reducible rfl
              go_frame
              refine wpAnyH_take (i := 8) (oi := ⟨some 24, _, _, _, _, _⟩) (v := ?va8) rfl (by kernel_rfl) (by kernel_rfl) (by kernel_rfl) (fun _ _ _ h => h) (Or.inl ⟨by kernel_rfl, ?ha8⟩) hHeld ?ra8
              case ha8 =>
                intro W hSw
                go_simp
                try with_reducible rfl
              go_frame
              refine wpAnyH_take (i := 9) (oi := ⟨some 25, _, _, _, _, _⟩) (v := ?va9) rfl (by kernel_rfl) (by kernel_rfl) (by kernel_rfl) (fun _ _ _ h => h) (Or.inl ⟨by kernel_rfl, ?ha9⟩) hHeld ?ra9
              case ha9 =>
                intro W hSw
                go_simp
                try with_reducible rfl
              go_frame
              refine wpAnyH_take (i := 10) (oi := ⟨some 26, _, _, _, _, _⟩) (v := ?va10) rfl (by kernel_rfl) (by kernel_rfl) (by kernel_rfl) (fun _ _ _ h => h) (Or.inl ⟨by kernel_rfl, ?ha10⟩) hHeld ?ra10
              case ha10 =>
                intro W hSw
                go_simp
                try with_reducible rfl
              go_frame
              refine wpAnyH_take (i := 11) (oi := ⟨some 27, _, _, _, _, _⟩) (v := undef) rfl (by kernel_rfl) (by kernel_rfl) (by kernel_rfl) (fun _ _ _ h => h) (Or.inr ⟨by kernel_rfl, rfl⟩) hHeld ?_
              go_frame
              refine wpAnyH_take (i := 12) (oi := ⟨some 28, _, _, _, _, _⟩) (v := undef) rfl (by kernel_rfl) (by kernel_rfl) (by kernel_rfl) (fun _ _ _ h => h) (Or.inr ⟨by kernel_rfl, rfl⟩) hHeld ?_
              go_frame
              refine wpAnyH_take (i := 13) (oi := ⟨some 29, _, _, _, _, _⟩) (v := undef) rfl (by kernel_rfl) (by kernel_rfl) (by kernel_rfl) (fun _ _ _ h => h) (Or.inr ⟨by kernel_rfl, rfl⟩) hHeld ?_
              go_frame
              refine wpAnyH_take (i := 14) (oi := ⟨some 30, _, _, _, _, _⟩) (v := undef) rfl (by kernel_rfl) (by kernel_rfl) (by kernel_rfl) (fun _ _ _ h => h) (Or.inr ⟨by kernel_rfl, rfl⟩) hHeld ?_
              go_frame
              refine wpAnyH_take (i := 15) (oi := ⟨some 31, _, _, _, _, _⟩) (v := undef) rfl (by kernel_rfl) (by kernel_rfl) (by kernel_rfl) (fun _ _ _ h => h) (Or.inr ⟨by kernel_rfl, rfl⟩) hHeld ?_
              go_frame
              refine wpAnyH_take (i := 16) (oi := ⟨some 32, _, _, _, _, _⟩) (v := undef) rfl (by kernel_rfl) (by kernel_rfl) (by kernel_rfl) (fun _ _ _ h => h) (Or.inr ⟨by kernel_rfl, rfl⟩) hHeld ?_
              go_frame
              refine wpAnyH_take (i := 17) (oi := ⟨some 33, _, _, _, _, _⟩) (v := undef) rfl (by kernel_rfl) (by kernel_rfl) (by kernel_rfl) (fun _ _ _ h => h) (Or.inr ⟨by kernel_rfl, rfl⟩) hHeld ?_
              go_frame
              refine wpAnyH_take (i := 18) (oi := ⟨some 34, _, _, _, _, _⟩) (v := undef) rfl (by kernel_rfl) (by kernel_rfl) (by kernel_rfl) (fun _ _ _ h => h) (Or.inr ⟨by kernel_rfl, rfl⟩) hHeld ?_
              go_frame
              refine wpAnyH_take (i := 19) (oi := ⟨some 35, _, _, _, _, _⟩) (v := undef) rfl (by kernel_rfl) (by kernel_rfl) (by kernel_rfl) (fun _ _ _ h => h) (Or.inr ⟨by kernel_rfl, rfl⟩) hHeld ?_
              go_frame
              refine wpAnyH_take (i := 20) (oi := ⟨some 36, _, _, _, _, _⟩) (v := undef) rfl (by kernel_rfl) (by kernel_rfl) (by kernel_rfl) (fun _ _ _ h => h) (Or.inr ⟨by kernel_rfl, rfl⟩) hHeld ?_
              go_frame
              refine wpAnyH_take (i := 21) (oi := ⟨some 37, _, _, _, _, _⟩) (v := undef) rfl (by kernel_rfl) (by kernel_rfl) (by kernel_rfl) (fun _ _ _ h => h) (Or.inr ⟨by kernel_rfl, rfl⟩) hHeld ?_
              go_frame
              refine wpAnyH_take (i := 22) (oi := ⟨some 38, _, _, _, _, _⟩) (v := undef) rfl (by kernel_rfl) (by kernel_rfl) (by kernel_rfl) (fun _ _ _ h => h) (Or.inr ⟨by kernel_rfl, rfl⟩) hHeld ?_
              go_frame
              refine wpAnyH_take (i := 23) (oi := ⟨some 39, _, _, _, _, _⟩) (v := ?va23) rfl (by kernel_rfl) (by kernel_rfl) (by kernel_rfl) (fun _ _ _ h => h) (Or.inl ⟨by kernel_rfl, ?ha23⟩) hHeld ?ra23
              case ha23 =>
                intro W hSw
                go_simp
                try with_reducible rfl
              go_frame
              refine wpAnyH_take (i := 24) (oi := ⟨some 40, _, _, _, _, _⟩) (v := ?va24) rfl (by kernel_rfl) (by kernel_rfl) (by kernel_rfl) (fun _ _ _ h => h) (Or.inl ⟨by kernel_rfl, ?ha24⟩) hHeld ?ra24
              case ha24 =>
                intro W hSw
                go_simp
                try with_reducible rfl
              go_frame
              refine wpAnyH_take (i := 25) (oi := ⟨some 41, _, _, _, _, _⟩) (v := ?va25) rfl (by kernel_rfl) (by kernel_rfl) (by kernel_rfl) (fun _ _ _ h => h) (Or.inl ⟨by kernel_rfl, ?ha25⟩) hHeld ?ra25
              case ha25 =>
                intro W hSw
                go_simp
                try with_reducible rfl
              go_frame
              refine wpAnyH_take (i := 26) (oi := ⟨some 42, _, _, _, _, _⟩) (v := ?va26) rfl (by kernel_rfl) (by kernel_rfl) (by kernel_rfl) (fun _ _ _ h => h) (Or.inl ⟨by kernel_rfl, ?ha26⟩) hHeld ?ra26
              case ha26 =>
                intro W hSw
                go_simp
                try with_reducible rfl
              go_frame
              refine wpAnyH_take (i := 27) (oi := ⟨some 43, _, _, _, _, _⟩) (v := ?va27) rfl (by kernel_rfl) (by kernel_rfl) (by kernel_rfl) (fun _ _ _ h => h) (Or.inl ⟨by kernel_rfl, ?ha27⟩) hHeld ?ra27
              case ha27 =>
                intro W hSw
                go_simp
                try with_reducible rfl
              go_frame
              refine wpAnyH_take (i := 28) (oi := ⟨some 44, _, _, _, _, _⟩) (v := ?va28) rfl (by kernel_rfl) (by kernel_rfl) (by kernel_rfl) (fun _ _ _ h => h) (Or.inl ⟨by kernel_rfl, ?ha28⟩) hHeld ?ra28
              case ha28 =>
                intro W hSw
                go_simp
                try with_reducible rfl
              go_frame
              refine wpAnyH_take (i := 29) (oi := ⟨some 45, _, _, _, _, _⟩) (v := ?va29) rfl (by kernel_rfl) (by kernel_rfl) (by kernel_rfl) (fun _ _ _ h => h) (Or.inl ⟨by kernel_rfl, ?ha29⟩) hHeld ?ra29
              case ha29 =>
                intro W hSw
                go_simp
                try with_reducible rfl
              go_frame
              refine wpAnyH_take (i := 30) (oi := ⟨some 46, _, _, _, _, _⟩) (v := ?va30) rfl (by kernel_rfl) (by kernel_rfl) (by kernel_rfl) (fun _ _ _ h => h) (Or.inl ⟨by kernel_rfl, ?ha30⟩) hHeld ?ra30
              case ha30 =>
                intro W hSw
                go_simp
                try with_reducible rfl
              go_frame
              refine wpAnyH_ready (rs := [31]) (by kernel_rfl) (by simp) ?_
              refine AllReadyH.cons rfl (fun K hK => ?_) AllReadyH.nil
              go_simp
              (with_reducible refine (hva _).mono ?_)
              rintro e w5 ⟨rfl, hb5⟩
              have hb9 : Below wr.heap.size wr w5 := (Below.refl wr.heap.size wr).drew.trans hb5
              refine hK.out _ _ ⟨(hb9.cell hbk).trans c0, (hb9.cell (by exact hbk)).trans c1, (hb9.cell (by exact hbk)).trans c2, (hb9.cell (by exact hbk)).trans c3⟩ (fun hHeld => ?_)
              clear hK K
              try go_frame
              refine wpAnyH_take (i := 32) (oi := ⟨some 48, _, _, _, _, _⟩) (v := ?va32) rfl (by kernel_rfl) (by kernel_rfl) (by kernel_rfl) (fun _ _ _ h => h) (Or.inl ⟨by kernel_rfl, ?ha32⟩) hHeld ?ra32
              case ha32 =>
                intro W hSw
                go_simp
                try with_reducible rfl
              go_frame
              refine wpAnyH_take (i := 33) (oi := ⟨some 49, _, _, _, _, _⟩) (v := ?va33) rfl (by kernel_rfl) (by kernel_rfl) (by kernel_rfl) (fun _ _ _ h => h) (Or.inl ⟨by kernel_rfl, ?ha33⟩) hHeld ?ra33
              case ha33 =>
                intro W hSw
                go_simp
                try with_reducible rfl
              go_frame
              refine wpAnyH_done (by kernel_rfl) ?_ _
              go_wp2
              go_ret
              rw [HF.out]
              exact ⟨rfl, hb.trans (hb9.mono hzz)⟩
            · rw [hv] at hva hs'
              have HS := Lib.hid (show wrsFrom (aheadW l (k + 1)) (l.drop (k + 1)) = wrsFrom none l from hs')
              clear hs' hl hv
              go_wp2
              refine wp_region_held_drew (S := fun w' => w'.cell? (ad.add (k * 4)) = some (.string a.key) ∧ w'.cell? ⟨(ad.add (k * 4)).block, (ad.add (k * 4)).off + 1, none⟩ = some (.int .i64 a.v.k) ∧ w'.cell? ⟨(ad.add (k * 4)).block, (ad.add (k * 4)).off + 2, none⟩ = some (.float .f64 a.v.n) ∧ w'.cell? ⟨(ad.add (k * 4)).block, (ad.add (k * 4)).off + 3, none⟩ = some (.string a.v.t)) (by kernel_rfl) ⟨c0, c1, c2, c3⟩ (fun hHeld => ?_)
              refine wpAnyH_take (i := 0) (oi := ⟨some 16, _, _, _, _, _⟩) (v := ?vb0) rfl (by kernel_rfl) (by kernel_rfl) (by kernel_rfl) (fun _ _ _ h => h) (Or.inl ⟨by kernel_rfl, ?hb0⟩) hHeld ?rb0
              case hb0 =>
                intro W hSw
                go_simp
                try with_reducible rfl
              go_frame
              refine wpAnyH_take (i := 1) (oi := ⟨some 17, _, _, _, _, _⟩) (v := ?vb1) rfl (by kernel_rfl) (by kernel_rfl) (by kernel_rfl) (fun _ _ _ h => h) (Or.inl ⟨by kernel_rfl, ?hb1⟩) hHeld ?rb1
              case hb1 =>
                intro W hSw
                go_simp
                try with_reducible rfl
              go_frame
              refine wpAnyH_take (i := 2) (oi := ⟨some 18, _, _, _, _, _⟩) (v := ?vb2) rfl (by kernel_rfl) (by kernel_rfl) (by kernel_rfl) (fun _ _ _ h => h) (Or.inl ⟨by kernel_rfl, ?hb2⟩) hHeld ?rb2
              case hb2 =>
                intro W hSw
                go_simp
                try with_reducible rfl
              go_frame
              refine wpAnyH_take (i := 3) (oi := ⟨some 19, _, _, _, _, _⟩) (v := ?vb3) rfl (by kernel_rfl) (by kernel_rfl) (by kernel_rfl) (fun _ _ _ h => h) (Or.inl ⟨by kernel_rfl, ?hb3⟩) hHeld ?rb3
              case hb3 =>
                intro W hSw
                go_simp
                try with_reducible rfl
              go_frame
              refine wpAnyH_take (i := 4) (oi := ⟨some 20, _, _, _, _, _⟩) (v := ?vb4) rfl (by kernel_rfl) (by kernel_rfl) (by kernel_rfl) (fun _ _ _ h => h) (Or.inl ⟨by kernel_rfl, ?hb4⟩) hHeld ?rb4
              case hb4 =>
                intro W hSw
                go_simp
                try with_reducible rfl
              go_frame
              refine wpAnyH_ready (rs := [5]) (by kernel_rfl) (by simp) ?_
              refine AllReadyH.cons rfl (fun K hK => ?_) AllReadyH.nil
              go_simp
              (with_reducible refine (hka _).mono ?_)
              rintro e w4 ⟨rfl, rfl⟩
              refine hK.out _ _ ⟨c0, c1, c2, c3⟩ (fun hHeld => ?_)
              clear hK K
              try go_frame
              refine wpAnyH_take (i := 6) (oi := ⟨some 22, _, _, _, _, _⟩) (v := ?vb6) rfl (by kernel_rfl) (by kernel_rfl) (by kernel_rfl) (fun _ _ _ h => h) (Or.inl ⟨by kernel_rfl, ?hb6⟩) hHeld ?rb6
              case hb6 =>
                intro W hSw
                go_simp
                try with_reducible rfl
              go_frame
              refine wpAnyH_take (i := 7) (oi := ⟨some 23, _, _, _, _, _⟩) (v := ?vb7) rfl (by kernel_rfl) (by kernel_rfl) (by kernel_rfl) (fun _ _ _ h => h) (Or.inl ⟨by kernel_rfl, ?hb7⟩) hHeld ?rb7
              case hb7 =>
                intro W hSw
                go_simp
                try with_reducible rfl
              go_frame
              refine wpAnyH_take (i := 8) (oi := ⟨some 24, _, _, _, _, _⟩) (v := ?vb8) rfl (by kernel_rfl) (by kernel_rfl) (by kernel_rfl) (fun _ _ _ h => h) (Or.inl ⟨by kernel_rfl, ?hb8⟩) hHeld ?rb8
              case hb8 =>
                intro W hSw
                go_simp
                try with_reducible rfl
              go_frame
              refine wpAnyH_take (i := 9) (oi := ⟨some 25, _, _, _, _, _⟩) (v := ?vb9) rfl (by kernel_rfl) (by kernel_rfl) (by kernel_rfl) (fun _ _ _ h => h) (Or.inl ⟨by kernel_rfl, ?hb9⟩) hHeld ?rb9
              case hb9 =>
                intro W hSw
                go_simp
                try with_reducible rfl
              go_frame
              refine wpAnyH_take (i := 10) (oi := ⟨some 26, _, _, _, _, _⟩) (v := ?vb10) rfl (by kernel_rfl) (by kernel_rfl) (by kernel_rfl) (fun _ _ _ h => h) (Or.inl ⟨by kernel_rfl, ?hb10⟩) hHeld ?rb10
              case hb10 =>
                intro W hSw
                go_simp
                try with_reducible rfl
              go_frame
              refine wpAnyH_take (i := 11) (oi := ⟨some 27, _, _, _, _, _⟩) (v := undef) rfl (by kernel_rfl) (by kernel_rfl) (by kernel_rfl) (fun _ _ _ h => h) (Or.inr ⟨by kernel_rfl, rfl⟩) hHeld ?_
              go_frame
              refine wpAnyH_take (i := 12) (oi := ⟨some 28, _, _, _, _, _⟩) (v := undef) rfl (by kernel_rfl) (by kernel_rfl) (by kernel_rfl) (fun _ _ _ h => h) (Or.inr ⟨by kernel_rfl, rfl⟩) hHeld ?_
              go_frame
              refine wpAnyH_take (i := 13) (oi := ⟨some 29, _, _, _, _, _⟩) (v := undef) rfl (by kernel_rfl) (by kernel_rfl) (by kernel_rfl) (fun _ _ _ h => h) (Or.inr ⟨by kernel_rfl, rfl⟩) hHeld ?_
              go_frame
              refine wpAnyH_take (i := 14) (oi := ⟨some 30, _, _, _, _, _⟩) (v := undef) rfl (by kernel_rfl) (by kernel_rfl) (by kernel_rfl) (fun _ _ _ h => h) (Or.inr ⟨by kernel_rfl, rfl⟩) hHeld ?_
              go_frame
              refine wpAnyH_take (i := 15) (oi := ⟨some 31, _, _, _, _, _⟩) (v := undef) rfl (by kernel_rfl) (by kernel_rfl) (by kernel_rfl) (fun _ _ _ h => h) (Or.inr ⟨by kernel_rfl, rfl⟩) hHeld ?_
              go_frame
              refine wpAnyH_take (i := 16) (oi := ⟨some 32, _, _, _, _, _⟩) (v := undef) rfl (by kernel_rfl) (by kernel_rfl) (by kernel_rfl) (fun _ _ _ h => h) (Or.inr ⟨by kernel_rfl, rfl⟩) hHeld ?_
              go_frame
              refine wpAnyH_take (i := 17) (oi := ⟨some 33, _, _, _, _, _⟩) (v := undef) rfl (by kernel_rfl) (by kernel_rfl) (by kernel_rfl) (fun _ _ _ h => h) (Or.inr ⟨by kernel_rfl, rfl⟩) hHeld ?_
              go_frame
              refine wpAnyH_take (i := 18) (oi := ⟨some 34, _, _, _, _, _⟩) (v := undef) rfl (by kernel_rfl) (by kernel_rfl) (by kernel_rfl) (fun _ _ _ h => h) (Or.inr ⟨by kernel_rfl, rfl⟩) hHeld ?_
              go_frame
              refine wpAnyH_take (i := 19) (oi := ⟨some 35, _, _, _, _, _⟩) (v := undef) rfl (by kernel_rfl) (by kernel_rfl) (by kernel_rfl) (fun _ _ _ h => h) (Or.inr ⟨by kernel_rfl, rfl⟩) hHeld ?_
              go_frame
              refine wpAnyH_take (i := 20) (oi := ⟨some 36, _, _, _, _, _⟩) (v := undef) rfl (by kernel_rfl) (by kernel_rfl) (by kernel_rfl) (fun _ _ _ h => h) (Or.inr ⟨by kernel_rfl, rfl⟩) hHeld ?_
              go_frame
              refine wpAnyH_take (i := 21) (oi := ⟨some 37, _, _, _, _, _⟩) (v := undef) rfl (by kernel_rfl) (by kernel_rfl) (by kernel_rfl) (fun _ _ _ h => h) (Or.inr ⟨by kernel_rfl, rfl⟩) hHeld ?_
              go_frame
              refine wpAnyH_take (i := 22) (oi := ⟨some 38, _, _, _, _, _⟩) (v := undef) rfl (by kernel_rfl) (by kernel_rfl) (by kernel_rfl) (fun _ _ _ h => h) (Or.inr ⟨by kernel_rfl, rfl⟩) hHeld ?_
              go_frame
              refine wpAnyH_take (i := 23) (oi := ⟨some 39, _, _, _, _, _⟩) (v := ?vb23) rfl (by kernel_rfl) (by kernel_rfl) (by kernel_rfl) (fun _ _ _ h => h) (Or.inl ⟨by kernel_rfl, ?hb23⟩) hHeld ?rb23
              case hb23 =>
                intro W hSw
                go_simp
                try with_reducible rfl
              go_frame
              refine wpAnyH_take (i := 24) (oi := ⟨some 40, _, _, _, _, _⟩) (v := ?vb24) rfl (by kernel_rfl) (by kernel_rfl) (by kernel_rfl) (fun _ _ _ h => h) (Or.inl ⟨by kernel_rfl, ?hb24⟩) hHeld ?rb24
              case hb24 =>
                intro W hSw
                go_simp
                try with_reducible rfl
              go_frame
              refine wpAnyH_take (i := 25) (oi := ⟨some 41, _, _, _, _, _⟩) (v := ?vb25) rfl (by kernel_rfl) (by kernel_rfl) (by kernel_rfl) (fun _ _ _ h => h) (Or.inl ⟨by kernel_rfl, ?hb25⟩) hHeld ?rb25
              case hb25 =>
                intro W hSw
                go_simp
                try with_reducible rfl
              go_frame
              refine wpAnyH_take (i := 26) (oi := ⟨some 42, _, _, _, _, _⟩) (v := ?vb26) rfl (by kernel_rfl) (by kernel_rfl) (by kernel_rfl) (fun _ _ _ h => h) (Or.inl ⟨by kernel_rfl, ?hb26⟩) hHeld ?rb26
              case hb26 =>
                intro W hSw
                go_simp
                try with_reducible rfl
              go_frame
              refine wpAnyH_take (i := 27) (oi := ⟨some 43, _, _, _, _, _⟩) (v := ?vb27) rfl (by kernel_rfl) (by kernel_rfl) (by kernel_rfl) (fun _ _ _ h => h) (Or.inl ⟨by kernel_rfl, ?hb27⟩) hHeld ?rb27
              case hb27 =>
                intro W hSw
                go_simp
                try with_reducible rfl
              go_frame
              refine wpAnyH_take (i := 28) (oi := ⟨some 44, _, _, _, _, _⟩) (v := ?vb28) rfl (by kernel_rfl) (by kernel_rfl) (by kernel_rfl) (fun _ _ _ h => h) (Or.inl ⟨by kernel_rfl, ?hb28⟩) hHeld ?rb28
              case hb28 =>
                intro W hSw
                go_simp
                try with_reducible rfl
              go_frame
              refine wpAnyH_take (i := 29) (oi := ⟨some 45, _, _, _, _, _⟩) (v := ?vb29) rfl (by kernel_rfl) (by kernel_rfl) (by kernel_rfl) (fun _ _ _ h => h) (Or.inl ⟨by kernel_rfl, ?hb29⟩) hHeld ?rb29
              case hb29 =>
                intro W hSw
                go_simp
                try with_reducible rfl
              go_frame
              refine wpAnyH_take (i := 30) (oi := ⟨some 46, _, _, _, _, _⟩) (v := ?vb30) rfl (by kernel_rfl) (by kernel_rfl) (by kernel_rfl) (fun _ _ _ h => h) (Or.inl ⟨by kernel_rfl, ?hb30⟩) hHeld ?rb30
              case hb30 =>
                intro W hSw
                go_simp
                try with_reducible rfl
              go_frame
              refine wpAnyH_ready (rs := [31]) (by kernel_rfl) (by simp) ?_
              refine AllReadyH.cons rfl (fun K hK => ?_) AllReadyH.nil
              go_simp
              (with_reducible refine (hva _).mono ?_)
              rintro e w5 ⟨rfl, hb5⟩
              have hb9 : Below wr.heap.size wr w5 := (Below.refl wr.heap.size wr).drew.trans hb5
              refine hK.out _ _ ⟨(hb9.cell hbk).trans c0, (hb9.cell (by exact hbk)).trans c1, (hb9.cell (by exact hbk)).trans c2, (hb9.cell (by exact hbk)).trans c3⟩ (fun hHeld => ?_)
              clear hK K
              try go_frame
              refine wpAnyH_take (i := 32) (oi := ⟨some 48, _, _, _, _, _⟩) (v := ?vb32) rfl (by kernel_rfl) (by kernel_rfl) (by kernel_rfl) (fun _ _ _ h => h) (Or.inl ⟨by kernel_rfl, ?hb32⟩) hHeld ?rb32
              case hb32 =>
                intro W hSw
                go_simp
                try with_reducible rfl
              go_frame
              refine wpAnyH_take (i := 33) (oi := ⟨some 49, _, _, _, _, _⟩) (v := ?vb33) rfl (by kernel_rfl) (by kernel_rfl) (by kernel_rfl) (fun _ _ _ h => h) (Or.inl ⟨by kernel_rfl, ?hb33⟩) hHeld ?rb33
              case hb33 =>
                intro W hSw
                go_simp
                try with_reducible rfl
              go_frame
              refine wpAnyH_done (by kernel_rfl) ?_ _
              go_wp2
              go_roundw
              case rel => exact ⟨k + 1, by omega, by go_num, HS.out, hb.trans (hb9.mono hzz)⟩
              case measure => simp [intOf]; omega
          · obtain ⟨ad', b, e', hb', hbk', hok', y0, -, -, -⟩ := ((h.below WtRel.kept hb).more WtRel.kept hb.size).wt (k := k - 1) (by omega)
            injection e' with e'
            subst e'
            have hd2 : decide (0 < k) = true := by simp; omega
            have hj0 : (0 : Int) ≤ (k : Int) - 1 := by omega
            have hj4 : (1 : Int) ≤ (k : Int) := by omega
            have hj1 : (k : Int) - 1 < (n : Int) := by omega
            have hj2 : ((k : Int) - 1).toNat = k - 1 := by omega
            have hj3 : IntKind.i64.wrap ((k : Int) - 1) = (k : Int) - 1 := by rw [IntKind.wrap_i64]; omega
            have hah : aheadW l k = some b.key := by
              cases k with
              | zero => omega
              | succ j => show (l[j]?).map (·.key) = _; rw [show l[j]? = some b from hb']; rfl
            rw [hah] at hs
            have hle : (Op.bytesLess a.key.toList b.key.toList || a.key.toList == b.key.toList) = !bl b.key a.key := by rw [bl_le]; unfold leB; simp
            clear hz hah hb' ha hok'
            cases hbl : bl b.key a.key
            · have HF := Lib.hid (show wrsB l = false by rw [hrb, ← hs]; simp [hbl])
              rw [hbl] at hle
              have hle' : (Op.bytesLess a.key.toList b.key.toList || a.key.toList == b.key.toList) = true := hle
              clear hs hl hle
              go_wp2
              go_quiet (first | (go_at_call 64; exact quietSame (hka _)))
              all_goals go_wp2
              all_goals go_ret
              all_goals rw [HF.out]
              all_goals exact ⟨rfl, hb.trans ((belowN _).mono hzz)⟩
            · have hs' : (a.v.may && wrsFrom (aheadW l (k + 1)) (l.drop (k + 1))) = wrsFrom none l := by rw [← hs]; simp [hbl]
              rw [hbl] at hle
              have hl1 : Op.bytesLess a.key.toList b.key.toList = false ∧ (a.key.toList == b.key.toList) = false := by simpa [Bool.or_eq_false_iff] using hle
              obtain ⟨hl2, hl3⟩ := hl1
              clear hs hle
              cases hv : a.v.may
              · rw [hv] at hva hs'
                have HF := Lib.hid (show wrsB l = false by rw [hrb, ← hs']; rfl)
                clear hs' hl hv
                go_wp2
                refine wp_region_held_drew (S := fun w' => w'.cell? (ad.add (k * 4)) = some (.string a.key) ∧ w'.cell? ⟨(ad.add (k * 4)).block, (ad.add (k * 4)).off + 1, none⟩ = some (.int .i64 a.v.k) ∧ w'.cell? ⟨(ad.add (k * 4)).block, (ad.add (k * 4)).off + 2, none⟩ = some (.float .f64 a.v.n) ∧ w'.cell? ⟨(ad.add (k * 4)).block, (ad.add (k * 4)).off + 3, none⟩ = some (.string a.v.t) ∧ w'.cell? (ad.add ((k - 1) * 4)) = some (.string b.key)) (by kernel_rfl) ⟨c0, c1, c2, c3, y0⟩ (fun hHeld => ?_)
                refine wpAnyH_take (i := 0) (oi := ⟨some 16, _, _, _, _, _⟩) (v := ?vc0) rfl (by kernel_rfl) (by kernel_rfl) (by kernel_rfl) (fun _ _ _ h => h) (Or.inl ⟨by kernel_rfl, ?hc0⟩) hHeld ?rc0
                case hc0 =>
                  intro W hSw
                  go_simp
                  try with_reducible rfl
                go_frame
                refine wpAnyH_take (i := 1) (oi := ⟨some 17, _, _, _, _, _⟩) (v := ?vc1) rfl (by kernel_rfl) (by kernel_rfl) (by kernel_rfl) (fun _ _ _ h => h) (Or.inl ⟨by kernel_rfl, ?hc1⟩) hHeld ?rc1
                case hc1 =>
                  intro W hSw
                  go_simp
                  try with_reducible rfl
                go_frame
                refine wpAnyH_take (i := 2) (oi := ⟨some 18, _, _, _, _, _⟩) (v := ?vc2) rfl (by kernel_rfl) (by kernel_rfl) (by kernel_rfl) (fun _ _ _ h => h) (Or.inl ⟨by kernel_rfl, ?hc2⟩) hHeld ?rc2
                case hc2 =>
                  intro W hSw
                  go_simp
                  try with_reducible rfl
                go_frame
                refine wpAnyH_take (i := 3) (oi := ⟨some 19, _, _, _, _, _⟩) (v := ?vc3) rfl (by kernel_rfl) (by kernel_rfl) (by kernel_rfl) (fun _ _ _ h => h) (Or.inl ⟨by kernel_rfl, ?hc3⟩) hHeld ?rc3
                case hc3 =>
                  intro W hSw
                  go_simp
                  try with_reducible rfl
                go_frame
                refine wpAnyH_take (i := 4) (oi := ⟨some 20, _, _, _, _, _⟩) (v := ?vc4) rfl (by kernel_rfl) (by kernel_rfl) (by kernel_rfl) (fun _ _ _ h => h) (Or.inl ⟨by kernel_rfl, ?hc4⟩) hHeld ?rc4
                case hc4 =>
                  intro W hSw
                  go_simp
                  try with_reducible rfl
                go_frame
                refine wpAnyH_ready (rs := [5]) (by kernel_rfl) (by simp) ?_
                refine AllReadyH.cons rfl (fun K hK => ?_) AllReadyH.nil
                go_simp
                (with_reducible refine (hka _).mono ?_)
                rintro e w4 ⟨rfl, rfl⟩
                refine hK.out _ _ ⟨c0, c1, c2, c3, y0⟩ (fun hHeld => ?_)
                clear hK K
                try go_frame
                refine wpAnyH_take (i := 6) (oi := ⟨some 22, _, _, _, _, _⟩) (v := ?vc6) rfl (by kernel_rfl) (by kernel_rfl) (by kernel_rfl) (fun _ _ _ h => h) (Or.inl ⟨by kernel_rfl, ?hc6⟩) hHeld ?rc6
                case hc6 =>
                  intro W hSw
                  go_simp
                  try with_reducible rfl
                go_frame
                refine wpAnyH_take (i := 7) (oi := ⟨some 23, _, _, _, _, _⟩) (v := ?vc7) rfl (by kernel_rfl) (by kernel_rfl) (by kernel_rfl) (fun _ _ _ h => h) (Or.inl ⟨by kernel_rfl, ?hc7⟩) hHeld ?rc7
                case hc7 =>
                  intro W hSw
                  go_simp
                  try with_reducible rfl
                go_frame
                refine wpAnyH_take (i := 8) (oi := ⟨some 24, _, _, _, _, _⟩) (v := ?vc8) rfl (by kernel_rfl) (by kernel_rfl) (by kernel_rfl) (fun _ _ _ h => h) (Or.inl ⟨by kernel_rfl, ?hc8⟩) hHeld ?rc8
                case hc8 =>
                  intro W hSw
                  go_simp
                  try with_reducible rfl
                go_frame
                refine wpAnyH_take (i := 9) (oi := ⟨some 25, _, _, _, _, _⟩) (v := ?vc9) rfl (by kernel_rfl) (by kernel_rfl) (by kernel_rfl) (fun _ _ _ h => h) (Or.inl ⟨by kernel_rfl, ?hc9⟩) hHeld ?rc9
                case hc9 =>
                  intro W hSw
                  go_simp
                  try with_reducible rfl
                go_frame
                refine wpAnyH_take (i := 10) (oi := ⟨some 26, _, _, _, _, _⟩) (v := ?vc10) rfl (by kernel_rfl) (by kernel_rfl) (by kernel_rfl) (fun _ _ _ h => h) (Or.inl ⟨by kernel_rfl, ?hc10⟩) hHeld ?rc10
                case hc10 =>
                  intro W hSw
                  go_simp
                  try with_reducible rfl
                go_frame
                refine wpAnyH_take (i := 11) (oi := ⟨some 27, _, _, _, _, _⟩) (v := ?vc11) rfl (by kernel_rfl) (by kernel_rfl) (by kernel_rfl) (fun _ _ _ h => h) (Or.inl ⟨by kernel_rfl, ?hc11⟩) hHeld ?rc11
                case hc11 =>
                  intro W hSw
                  go_simp
                  try with_reducible rfl
                go_frame
                refine wpAnyH_take (i := 12) (oi := ⟨some 28, _, _, _, _, _⟩) (v := ?vc12) rfl (by kernel_rfl) (by kernel_rfl) (by kernel_rfl) (fun _ _ _ h => h) (Or.inl ⟨by kernel_rfl, ?hc12⟩) hHeld ?rc12
                case hc12 =>
                  intro W hSw
                  go_simp
                  try with_reducible rfl
                go_frame
                refine wpAnyH_take (i := 13) (oi := ⟨some 29, _, _, _, _, _⟩) (v := ?vc13) rfl (by kernel_rfl) (by kernel_rfl) (by kernel_rfl) (fun _ _ _ h => h) (Or.inl ⟨by kernel_rfl, ?hc13⟩) hHeld ?rc13
                case hc13 =>
                  intro W hSw
                  go_simp
                  try with_reducible rfl
                go_frame
                refine wpAnyH_take (i := 14) (oi := ⟨some 30, _, _, _, _, _⟩) (v := ?vc14) rfl (by kernel_rfl) (by kernel_rfl) (by kernel_rfl) (fun _ _ _ h => h) (Or.inl ⟨by kernel_rfl, ?hc14⟩) hHeld ?rc14
                case hc14 =>
                  intro W hSw
                  go_simp
                  try with_reducible rfl
                go_frame
                refine wpAnyH_take (i := 15) (oi := ⟨some 31, _, _, _, _, _⟩) (v := ?vc15) rfl (by kernel_rfl) (by kernel_rfl) (by kernel_rfl) (fun _ _ _ h => h) (Or.inl ⟨by kernel_rfl, ?hc15⟩) hHeld ?rc15
                case hc15 =>
                  intro W hSw
                  go_simp
                  try with_reducible rfl
                go_frame
                refine wpAnyH_take (i := 16) (oi := ⟨some 32, _, _, _, _, _⟩) (v := ?vc16) rfl (by kernel_rfl) (by kernel_rfl) (by kernel_rfl) (fun _ _ _ h => h) (Or.inl ⟨by kernel_rfl, ?hc16⟩) hHeld ?rc16
                case hc16 =>
                  intro W hSw
                  go_simp
                  try with_reducible rfl
                go_frame
                refine wpAnyH_take (i := 17) (oi := ⟨some 33, _, _, _, _, _⟩) (v := ?vc17) rfl (by kernel_rfl) (by kernel_rfl) (by kernel_rfl) (fun _ _ _ h => h) (Or.inl ⟨by kernel_rfl, ?hc17⟩) hHeld ?rc17
                case hc17 =>
                  intro W hSw
                  go_simp
                  try with_reducible rfl
                go_frame
                refine wpAnyH_take (i := 18) (oi := ⟨some 34, _, _, _, _, _⟩) (v := ?vc18) rfl (by kernel_rfl) (by kernel_rfl) (by kernel_rfl) (fun _ _ _ h => h) (Or.inl ⟨by kernel_rfl, ?hc18⟩) hHeld ?rc18
                case hc18 =>
                  intro W hSw
                  go_simp
                  try with_reducible rfl
                go_frame
                refine wpAnyH_take (i := 19) (oi := ⟨some 35, _, _, _, _, _⟩) (v := ?vc19) rfl (by kernel_rfl) (by kernel_rfl) (by kernel_rfl) (fun _ _ _ h => h) (Or.inl ⟨by kernel_rfl, ?hc19⟩) hHeld ?rc19
                case hc19 =>
                  intro W hSw
                  go_simp
                  try with_reducible rfl
                go_frame
                refine wpAnyH_take (i := 20) (oi := ⟨some 36, _, _, _, _, _⟩) (v := ?vc20) rfl (by kernel_rfl) (by kernel_rfl) (by kernel_rfl) (fun _ _ _ h => h) (Or.inl ⟨by kernel_rfl, ?hc20⟩) hHeld ?rc20
                case hc20 =>
                  intro W hSw
                  go_simp
                  try with_reducible rfl
                go_frame
                refine wpAnyH_take (i := 21) (oi := ⟨some 37, _, _, _, _, _⟩) (v := ?vc21) rfl (by kernel_rfl) (by kernel_rfl) (by kernel_rfl) (fun _ _ _ h => h) (Or.inl ⟨by kernel_rfl, ?hc21⟩) hHeld ?rc21
                case hc21 =>
                  intro W hSw
                  go_simp
                  try with_reducible rfl
                go_frame
                refine wpAnyH_take (i := 22) (oi := ⟨some 38, _, _, _, _, _⟩) (v := ?vc22) rfl (by kernel_rfl) (by kernel_rfl) (by kernel_rfl) (fun _ _ _ h => h) (Or.inl ⟨by kernel_rfl, ?hc22⟩) hHeld ?rc22
                case hc22 =>
                  intro W hSw
                  go_simp
                  try with_reducible rfl
                go_frame
                refine wpAnyH_take (i := 23) (oi := ⟨some 39, _, _, _, _, _⟩) (v := ?vc23) rfl (by kernel_rfl) (by kernel_rfl) (by kernel_rfl) (fun _ _ _ h => h) (Or.inl ⟨by kernel_rfl, ?hc23⟩) hHeld ?rc23
                case hc23 =>
                  intro W hSw
                  go_simp
                  try with_reducible rfl
                go_frame
                refine wpAnyH_take (i := 24) (oi := ⟨some 40, _, _, _, _, _⟩) (v := ?vc24) rfl (by kernel_rfl) (by kernel_rfl) (by kernel_rfl) (fun _ _ _ h => h) (Or.inl ⟨by kernel_rfl, ?hc24⟩) hHeld ?rc24
                case hc24 =>
                  intro W hSw
                  go_simp
                  try with_reducible rfl
                go_frame
                refine wpAnyH_take (i := 25) (oi := ⟨some 41, _, _, _, _, _⟩) (v := ?vc25) rfl (by kernel_rfl) (by kernel_rfl) (by kernel_rfl) (fun _ _ _ h => h) (Or.inl ⟨by kernel_rfl, ?hc25⟩) hHeld ?rc25
                case hc25 =>
                  intro W hSw
                  go_simp
                  try with_reducible rfl
                go_frame
                refine wpAnyH_take (i := 26) (oi := ⟨some 42, _, _, _, _, _⟩) (v := ?vc26) rfl (by kernel_rfl) (by kernel_rfl) (by kernel_rfl) (fun _ _ _ h => h) (Or.inl ⟨by kernel_rfl, ?hc26⟩) hHeld ?rc26
                case hc26 =>
                  intro W hSw
                  go_simp
                  try with_reducible rfl
                go_frame
                refine wpAnyH_take (i := 27) (oi := ⟨some 43, _, _, _, _, _⟩) (v := ?vc27) rfl (by kernel_rfl) (by kernel_rfl) (by kernel_rfl) (fun _ _ _ h => h) (Or.inl ⟨by kernel_rfl, ?hc27⟩) hHeld ?rc27
                case hc27 =>
                  intro W hSw
                  go_simp
                  try with_reducible rfl
                go_frame
                refine wpAnyH_take (i := 28) (oi := ⟨some 44, _, _, _, _, _⟩) (v := ?vc28) rfl (by kernel_rfl) (by kernel_rfl) (by kernel_rfl) (fun _ _ _ h => h) (Or.inl ⟨by kernel_rfl, ?hc28⟩) hHeld ?rc28
                case hc28 =>
                  intro W hSw
                  go_simp
                  try with_reducible rfl
                go_frame
                refine wpAnyH_take (i := 29) (oi := ⟨some 45, _, _, _, _, _⟩) (v := ?vc29) rfl (by kernel_rfl) (by kernel_rfl) (by kernel_rfl) (fun _ _ _ h => h) (Or.inl ⟨by kernel_rfl, ?hc29⟩) hHeld ?rc29
                case hc29 =>
                  intro W hSw
                  go_simp
                  try with_reducible rfl
                go_frame
                refine wpAnyH_take (i := 30) (oi := ⟨some 46, _, _, _, _, _⟩) (v := ?vc30) rfl (by kernel_rfl) (by kernel_rfl) (by kernel_rfl) (fun _ _ _ h => h) (Or.inl ⟨by kernel_rfl, ?hc30⟩) hHeld ?rc30
                case hc30 =>
                  intro W hSw
                  go_simp
                  try with_reducible rfl
                go_frame
                refine wpAnyH_ready (rs := [31]) (by kernel_rfl) (by simp) ?_
                refine AllReadyH.cons rfl (fun K hK => ?_) AllReadyH.nil
                go_simp
                (with_reducible refine (hva _).mono ?_)
                rintro e w5 ⟨rfl, hb5⟩
                have hb9 : Below wr.heap.size wr w5 := (Below.refl wr.heap.size wr).drew.trans hb5
                refine hK.out _ _ ⟨(hb9.cell hbk).trans c0, (hb9.cell (by exact hbk)).trans c1, (hb9.cell (by exact hbk)).trans c2, (hb9.cell (by exact hbk)).trans c3, (hb9.cell hbk').trans y0⟩ (fun hHeld => ?_)
                clear hK K
                try go_frame
                refine wpAnyH_take (i := 32) (oi := ⟨some 48, _, _, _, _, _⟩) (v := ?vc32) rfl (by kernel_rfl) (by kernel_rfl) (by kernel_rfl) (fun _ _ _ h => h) (Or.inl ⟨by kernel_rfl, ?hc32⟩) hHeld ?rc32
                case hc32 =>
                  intro W hSw
                  go_simp
                  try with_reducible rfl
                go_frame
                refine wpAnyH_take (i := 33) (oi := ⟨some 49, _, _, _, _, _⟩) (v := ?vc33) rfl (by kernel_rfl) (by kernel_rfl) (by kernel_rfl) (fun _ _ _ h => h) (Or.inl ⟨by kernel_rfl, ?hc33⟩) hHeld ?rc33
                case hc33 =>
                  intro W hSw
                  go_simp
                  try with_reducible rfl
                go_frame
                refine wpAnyH_done (by kernel_rfl) ?_ _
                go_wp2
                go_ret
                rw [HF.out]
                exact ⟨rfl, hb.trans (hb9.mono hzz)⟩
              · rw [hv] at hva hs'
                have HS := Lib.hid (show wrsFrom (aheadW l (k + 1)) (l.drop (k + 1)) = wrsFrom none l from hs')
                clear hs' hl hv
                go_wp2
                refine wp_region_held_drew (S := fun w' => w'.cell? (ad.add (k * 4)) = some (.string a.key) ∧ w'.cell? ⟨(ad.add (k * 4)).block, (ad.add (k * 4)).off + 1, none⟩ = some (.int .i64 a.v.k) ∧ w'.cell? ⟨(ad.add (k * 4)).block, (ad.add (k * 4)).off + 2, none⟩ = some (.float .f64 a.v.n) ∧ w'.cell? ⟨(ad.add (k * 4)).block, (ad.add (k * 4)).off + 3, none⟩ = some (.string a.v.t) ∧ w'.cell? (ad.add ((k - 1) * 4)) = some (.string b.key)) (by kernel_rfl) ⟨c0, c1, c2, c3, y0⟩ (fun hHeld => ?_)
                refine wpAnyH_take (i := 0) (oi := ⟨some 16, _, _, _, _, _⟩) (v := ?vd0) rfl (by kernel_rfl) (by kernel_rfl) (by kernel_rfl) (fun _ _ _ h => h) (Or.inl ⟨by kernel_rfl, ?hd0⟩) hHeld ?rd0
                case hd0 =>
                  intro W hSw
                  go_simp
                  try with_reducible rfl
                go_frame
                refine wpAnyH_take (i := 1) (oi := ⟨some 17, _, _, _, _, _⟩) (v := ?vd1) rfl (by kernel_rfl) (by kernel_rfl) (by kernel_rfl) (fun _ _ _ h => h) (Or.inl ⟨by kernel_rfl, ?hd1⟩) hHeld ?rd1
                case hd1 =>
                  intro W hSw
                  go_simp
                  try with_reducible rfl
                go_frame
                refine wpAnyH_take (i := 2) (oi := ⟨some 18, _, _, _, _, _⟩) (v := ?vd2) rfl (by kernel_rfl) (by kernel_rfl) (by kernel_rfl) (fun _ _ _ h => h) (Or.inl ⟨by kernel_rfl, ?hd2⟩) hHeld ?rd2
                case hd2 =>
                  intro W hSw
                  go_simp
                  try with_reducible rfl
                go_frame
                refine wpAnyH_take (i := 3) (oi := ⟨some 19, _, _, _, _, _⟩) (v := ?vd3) rfl (by kernel_rfl) (by kernel_rfl) (by kernel_rfl) (fun _ _ _ h => h) (Or.inl ⟨by kernel_rfl, ?hd3⟩) hHeld ?rd3
                case hd3 =>
                  intro W hSw
                  go_simp
                  try with_reducible rfl
                go_frame
                refine wpAnyH_take (i := 4) (oi := ⟨some 20, _, _, _, _, _⟩) (v := ?vd4) rfl (by kernel_rfl) (by kernel_rfl) (by kernel_rfl) (fun _ _ _ h => h) (Or.inl ⟨by kernel_rfl, ?hd4⟩) hHeld ?rd4
                case hd4 =>
                  intro W hSw
                  go_simp
                  try with_reducible rfl
                go_frame
                refine wpAnyH_ready (rs := [5]) (by kernel_rfl) (by simp) ?_
                refine AllReadyH.cons rfl (fun K hK => ?_) AllReadyH.nil
                go_simp
                (with_reducible refine (hka _).mono ?_)
                rintro e w4 ⟨rfl, rfl⟩
                refine hK.out _ _ ⟨c0, c1, c2, c3, y0⟩ (fun hHeld => ?_)
                clear hK K
                try go_frame
                refine wpAnyH_take (i := 6) (oi := ⟨some 22, _, _, _, _, _⟩) (v := ?vd6) rfl (by kernel_rfl) (by kernel_rfl) (by kernel_rfl) (fun _ _ _ h => h) (Or.inl ⟨by kernel_rfl, ?hd6⟩) hHeld ?rd6
                case hd6 =>
                  intro W hSw
                  go_simp
                  try with_reducible rfl
                go_frame
                refine wpAnyH_take (i := 7) (oi := ⟨some 23, _, _, _, _, _⟩) (v := ?vd7) rfl (by kernel_rfl) (by kernel_rfl) (by kernel_rfl) (fun _ _ _ h => h) (Or.inl ⟨by kernel_rfl, ?hd7⟩) hHeld ?rd7
                case hd7 =>
                  intro W hSw
                  go_simp
                  try with_reducible rfl
                go_frame
                refine wpAnyH_take (i := 8) (oi := ⟨some 24, _, _, _, _, _⟩) (v := ?vd8) rfl (by kernel_rfl) (by kernel_rfl) (by kernel_rfl) (fun _ _ _ h => h) (Or.inl ⟨by kernel_rfl, ?hd8⟩) hHeld ?rd8
                case hd8 =>
                  intro W hSw
                  go_simp
                  try with_reducible rfl
                go_frame
                refine wpAnyH_take (i := 9) (oi := ⟨some 25, _, _, _, _, _⟩) (v := ?vd9) rfl (by kernel_rfl) (by kernel_rfl) (by kernel_rfl) (fun _ _ _ h => h) (Or.inl ⟨by kernel_rfl, ?hd9⟩) hHeld ?rd9
                case hd9 =>
                  intro W hSw
                  go_simp
                  try with_reducible rfl
                go_frame
                refine wpAnyH_take (i := 10) (oi := ⟨some 26, _, _, _, _, _⟩) (v := ?vd10) rfl (by kernel_rfl) (by kernel_rfl) (by kernel_rfl) (fun _ _ _ h => h) (Or.inl ⟨by kernel_rfl, ?hd10⟩) hHeld ?rd10
                case hd10 =>
                  intro W hSw
                  go_simp
                  try with_reducible rfl
                go_frame
                refine wpAnyH_take (i := 11) (oi := ⟨some 27, _, _, _, _, _⟩) (v := ?vd11) rfl (by kernel_rfl) (by kernel_rfl) (by kernel_rfl) (fun _ _ _ h => h) (Or.inl ⟨by kernel_rfl, ?hd11⟩) hHeld ?rd11
                case hd11 =>
                  intro W hSw
                  go_simp
                  try with_reducible rfl
                go_frame
                refine wpAnyH_take (i := 12) (oi := ⟨some 28, _, _, _, _, _⟩) (v := ?vd12) rfl (by kernel_rfl) (by kernel_rfl) (by kernel_rfl) (fun _ _ _ h => h) (Or.inl ⟨by kernel_rfl, ?hd12⟩) hHeld ?rd12
                case hd12 =>
                  intro W hSw
                  go_simp
                  try with_reducible rfl
                go_frame
                refine wpAnyH_take (i := 13) (oi := ⟨some 29, _, _, _, _, _⟩) (v := ?vd13) rfl (by kernel_rfl) (by kernel_rfl) (by kernel_rfl) (fun _ _ _ h => h) (Or.inl ⟨by kernel_rfl, ?hd13⟩) hHeld ?rd13
                case hd13 =>
                  intro W hSw
                  go_simp
                  try with_reducible rfl
                go_frame
                refine wpAnyH_take (i := 14) (oi := ⟨some 30, _, _, _, _, _⟩) (v := ?vd14) rfl (by kernel_rfl) (by kernel_rfl) (by kernel_rfl) (fun _ _ _ h => h) (Or.inl ⟨by kernel_rfl, ?hd14⟩) hHeld ?rd14
                case hd14 =>
                  intro W hSw
                  go_simp
                  try with_reducible rfl
                go_frame
                refine wpAnyH_take (i := 15) (oi := ⟨some 31, _, _, _, _, _⟩) (v := ?vd15) rfl (by kernel_rfl) (by kernel_rfl) (by kernel_rfl) (fun _ _ _ h => h) (Or.inl ⟨by kernel_rfl, ?hd15⟩) hHeld ?rd15
                case hd15 =>
                  intro W hSw
                  go_simp
                  try with_reducible rfl
                go_frame
                refine wpAnyH_take (i := 16) (oi := ⟨some 32, _, _, _, _, _⟩) (v := ?vd16) rfl (by kernel_rfl) (by kernel_rfl) (by kernel_rfl) (fun _ _ _ h => h) (Or.inl ⟨by kernel_rfl, ?hd16⟩) hHeld ?rd16
                case hd16 =>
                  intro W hSw
                  go_simp
                  try with_reducible rfl
                go_frame
                refine wpAnyH_take (i := 17) (oi := ⟨some 33, _, _, _, _, _⟩) (v := ?vd17) rfl (by kernel_rfl) (by kernel_rfl) (by kernel_rfl) (fun _ _ _ h => h) (Or.inl ⟨by kernel_rfl, ?hd17⟩) hHeld ?rd17
                case hd17 =>
                  intro W hSw
                  go_simp
                  try with_reducible rfl
                go_frame
                refine wpAnyH_take (i := 18) (oi := ⟨some 34, _, _, _, _, _⟩) (v := ?vd18) rfl (by kernel_rfl) (by kernel_rfl) (by kernel_rfl) (fun _ _ _ h => h) (Or.inl ⟨by kernel_rfl, ?hd18⟩) hHeld ?rd18
                case hd18 =>
                  intro W hSw
                  go_simp
                  try with_reducible rfl
                go_frame
                refine wpAnyH_take (i := 19) (oi := ⟨some 35, _, _, _, _, _⟩) (v := ?vd19) rfl (by kernel_rfl) (by kernel_rfl) (by kernel_rfl) (fun _ _ _ h => h) (Or.inl ⟨by kernel_rfl, ?hd19⟩) hHeld ?rd19
                case hd19 =>
                  intro W hSw
                  go_simp
                  try with_reducible rfl
                go_frame
                refine wpAnyH_take (i := 20) (oi := ⟨some 36, _, _, _, _, _⟩) (v := ?vd20) rfl (by kernel_rfl) (by kernel_rfl) (by kernel_rfl) (fun _ _ _ h => h) (Or.inl ⟨by kernel_rfl, ?hd20⟩) hHeld ?rd20
                case hd20 =>
                  intro W hSw
                  go_simp
                  try with_reducible rfl
                go_frame
                refine wpAnyH_take (i := 21) (oi := ⟨some 37, _, _, _, _, _⟩) (v := ?vd21) rfl (by kernel_rfl) (by kernel_rfl) (by kernel_rfl) (fun _ _ _ h => h) (Or.inl ⟨by kernel_rfl, ?hd21⟩) hHeld ?rd21
                case hd21 =>
                  intro W hSw
                  go_simp
                  try with_reducible rfl
                go_frame
                refine wpAnyH_take (i := 22) (oi := ⟨some 38, _, _, _, _, _⟩) (v := ?vd22) rfl (by kernel_rfl) (by kernel_rfl) (by kernel_rfl) (fun _ _ _ h => h) (Or.inl ⟨by kernel_rfl, ?hd22⟩) hHeld ?rd22
                case hd22 =>
                  intro W hSw
                  go_simp
                  try with_reducible rfl
                go_frame
                refine wpAnyH_take (i := 23) (oi := ⟨some 39, _, _, _, _, _⟩) (v := ?vd23) rfl (by kernel_rfl) (by kernel_rfl) (by kernel_rfl) (fun _ _ _ h => h) (Or.inl ⟨by kernel_rfl, ?hd23⟩) hHeld ?rd23
                case hd23 =>
                  intro W hSw
                  go_simp
                  try with_reducible rfl
                go_frame
                refine wpAnyH_take (i := 24) (oi := ⟨some 40, _, _, _, _, _⟩) (v := ?vd24) rfl (by kernel_rfl) (by kernel_rfl) (by kernel_rfl) (fun _ _ _ h => h) (Or.inl ⟨by kernel_rfl, ?hd24⟩) hHeld ?rd24
                case hd24 =>
                  intro W hSw
                  go_simp
                  try with_reducible rfl
                go_frame
                refine wpAnyH_take (i := 25) (oi := ⟨some 41, _, _, _, _, _⟩) (v := ?vd25) rfl (by kernel_rfl) (by kernel_rfl) (by kernel_rfl) (fun _ _ _ h => h) (Or.inl ⟨by kernel_rfl, ?hd25⟩) hHeld ?rd25
                case hd25 =>
                  intro W hSw
                  go_simp
                  try with_reducible rfl
                go_frame
                refine wpAnyH_take (i := 26) (oi := ⟨some 42, _, _, _, _, _⟩) (v := ?vd26) rfl (by kernel_rfl) (by kernel_rfl) (by kernel_rfl) (fun _ _ _ h => h) (Or.inl ⟨by kernel_rfl, ?hd26⟩) hHeld ?rd26
                case hd26 =>
                  intro W hSw
                  go_simp
                  try with_reducible rfl
                go_frame
                refine wpAnyH_take (i := 27) (oi := ⟨some 43, _, _, _, _, _⟩) (v := ?vd27) rfl (by kernel_rfl) (by kernel_rfl) (by kernel_rfl) (fun _ _ _ h => h) (Or.inl ⟨by kernel_rfl, ?hd27⟩) hHeld ?rd27
                case hd27 =>
                  intro W hSw
                  go_simp
                  try with_reducible rfl
                go_frame
                refine wpAnyH_take (i := 28) (oi := ⟨some 44, _, _, _, _, _⟩) (v := ?vd28) rfl (by kernel_rfl) (by kernel_rfl) (by kernel_rfl) (fun _ _ _ h => h) (Or.inl ⟨by kernel_rfl, ?hd28⟩) hHeld ?rd28
                case hd28 =>
                  intro W hSw
                  go_simp
                  try with_reducible rfl
                go_frame
                refine wpAnyH_take (i := 29) (oi := ⟨some 45, _, _, _, _, _⟩) (v := ?vd29) rfl (by kernel_rfl) (by kernel_rfl) (by kernel_rfl) (fun _ _ _ h => h) (Or.inl ⟨by kernel_rfl, ?hd29⟩) hHeld ?rd29
                case hd29 =>
                  intro W hSw
                  go_simp
                  try with_reducible rfl
                go_frame
                refine wpAnyH_take (i := 30) (oi := ⟨some 46, _, _, _, _, _⟩) (v := ?vd30) rfl (by kernel_rfl) (by kernel_rfl) (by kernel_rfl) (fun _ _ _ h => h) (Or.inl ⟨by kernel_rfl, ?hd30⟩) hHeld ?rd30
                case hd30 =>
                  intro W hSw
                  go_simp
                  try with_reducible rfl
                go_frame
                refine wpAnyH_ready (rs := [31]) (by kernel_rfl) (by simp) ?_
                refine AllReadyH.cons rfl (fun K hK => ?_) AllReadyH.nil
                go_simp
                (with_reducible refine (hva _).mono ?_)
                rintro e w5 ⟨rfl, hb5⟩
                have hb9 : Below wr.heap.size wr w5 := (Below.refl wr.heap.size wr).drew.trans hb5
                refine hK.out _ _ ⟨(hb9.cell hbk).trans c0, (hb9.cell (by exact hbk)).trans c1, (hb9.cell (by exact hbk)).trans c2, (hb9.cell (by exact hbk)).trans c3, (hb9.cell hbk').trans y0⟩ (fun hHeld => ?_)
                clear hK K
                try go_frame
                refine wpAnyH_take (i := 32) (oi := ⟨some 48, _, _, _, _, _⟩) (v := ?vd32) rfl (by kernel_rfl) (by kernel_rfl) (by kernel_rfl) (fun _ _ _ h => h) (Or.inl ⟨by kernel_rfl, ?hd32⟩) hHeld ?rd32
                case hd32 =>
                  intro W hSw
                  go_simp
                  try with_reducible rfl
                go_frame
                refine wpAnyH_take (i := 33) (oi := ⟨some 49, _, _, _, _, _⟩) (v := ?vd33) rfl (by kernel_rfl) (by kernel_rfl) (by kernel_rfl) (fun _ _ _ h => h) (Or.inl ⟨by kernel_rfl, ?hd33⟩) hHeld ?rd33
                case hd33 =>
                  intro W hSw
                  go_simp
                  try with_reducible rfl
                go_frame
                refine wpAnyH_done (by kernel_rfl) ?_ _
                go_wp2
                go_roundw
                case rel => exact ⟨k + 1, by omega, by go_num, HS.out, hb.trans (hb9.mono hzz)⟩
                case measure => simp [intOf]; omega
      · have hd1 : decide ((k : Int) < (n : Int)) = false := by simp; omega
        have HS := Lib.hid (show wrsB l = true by rw [hrb, ← hs, List.drop_of_length_le (by omega)]; rfl)
        clear hs hl
        go_wp2
        go_ret
        rw [HS.out]
        exact ⟨rfl, hb⟩
  · have hb0 : decide ((16 : Int) < (n : Int)) = true := by simp; omega
    have HF := Lib.hid (show wrsB l = false by rw [wrsB_eq, hl]; simp; omega)
    clear hl
    go_enter Tryz.func98, Tryz.ntmps98
    go_wp2
    go_ret
    rw [HF.out]
    exact ⟨rfl, Below.refl _ _⟩

set_option maxRecDepth 100000 in
set_option maxHeartbeats 4000000 in
theorem rpend_any (p : Pn) (A1 A2 : Option Addr) (n1 n2 c1 c2 : Nat) (w : World) (hr : Sl KyRel 1 w w.heap.size A1 n1 p.r) (hw : Sl WtRel 4 w w.heap.size A2 n2 p.w) (hn1 : n1 ≤ maxLen) (hn2 : n2 ≤ maxLen) :
    Calls Tryz.prog 67 #[p.val (.slice A1 n1 c1) (.slice A2 n2 c2)] w fun e w' => e = .returned (.int .i64 (pendE p)) ∧ Below w.heap.size w w' := by
  have ht' := fun w => rtxnMay_any p.t w
  have hs' := fun w => rhmay_any p.s w
  have hzr := fun w => zero_run p.s w
  have hB := Blk.new w 45 #[.int .i64 p.t.c, .int .i64 p.t.l, .int .i64 p.t.s, .int .i64 p.s.w, .int .i64 p.s.l, .int .i64 p.s.n, .slice A1 n1 c1, .slice A2 n2 c2]
  have hX : Below w.heap.size w (w.alloc (.cells #[.int .i64 p.t.c, .int .i64 p.t.l, .int .i64 p.t.s, .int .i64 p.s.w, .int .i64 p.s.l, .int .i64 p.s.n, .slice A1 n1 c1, .slice A2 n2 c2] 45)) := by go_grown
  have hK := fun w' (hb : Below w.heap.size w w') => rkeys_any A1 n1 c1 p.r w' ((hr.below KyRel.kept hb).more KyRel.kept hb.size) hn1
  have hW := fun w' (hb : Below w.heap.size w w') => rwrs_any A2 n2 c2 p.w w' ((hw.below WtRel.kept hb).more WtRel.kept hb.size) hn2
  cases ht : p.t.may
  · have HF := Lib.hid (show pendE p = 4 by unfold pendE; rw [ht]; rfl)
    rw [ht] at ht'
    clear ht
    go_enter Tryz.func67, Tryz.ntmps67
    go_wp2_with ((with_reducible refine (ht' _).mono ?_); rintro e w1 ⟨rfl, hb1⟩)
    go_ret
    rw [HF.out]
    exact ⟨rfl, hX.trans (hb1.mono hX.size)⟩
  rw [ht] at ht'
  cases hsm : p.s.may
  · have HF := Lib.hid (show pendE p = 17 by unfold pendE; rw [ht, hsm]; rfl)
    rw [hsm] at hs'
    clear ht hsm
    cases hz : p.s.zero
    all_goals
      rw [hz] at hzr
      clear hz
      go_enter Tryz.func67, Tryz.ntmps67
      go_wp2_with (first
        | ((with_reducible refine (ht' _).mono ?_); rintro e w1 ⟨rfl, hb1⟩
           have hB1 := hB.below hb1 hB.lt
           have hY := hX.trans (hb1.mono hX.size)
           obtain ⟨g1, x0, x1, x2, x3, x4, x5, x6, x7⟩ := hB1.eight)
        | ((with_reducible refine (hs' _).mono ?_); rintro e w2 ⟨rfl, hb2⟩))
      go_ret
      rw [HF.out]
      exact ⟨rfl, hY.trans (hb2.mono hY.size)⟩
  rw [hsm] at hs'
  cases hz : p.s.zero
  · rw [hz] at hzr
    have hE : pendE p = if !riseB p.r || !wrsB p.w then 4 else 0 := by
      unfold pendE wrsB
      rw [ht, hsm, hz]
      cases riseB p.r <;> cases riseB (p.w.map (·.key)) <;> cases allMay p.w <;> rfl
    clear ht hsm hz
    cases hr1 : riseB p.r
    · rw [hr1] at hK
      have HF := Lib.hid (show pendE p = 4 by rw [hE, hr1]; rfl)
      clear hE hr1
      go_enter Tryz.func67, Tryz.ntmps67
      go_wp2_with (first
        | ((with_reducible refine (ht' _).mono ?_); rintro e w1 ⟨rfl, hb1⟩
           have hB1 := hB.below hb1 hB.lt
           have hY := hX.trans (hb1.mono hX.size)
           obtain ⟨g1, x0, x1, x2, x3, x4, x5, x6, x7⟩ := hB1.eight)
        | ((with_reducible refine (hs' _).mono ?_); rintro e w2 ⟨rfl, hb2⟩
           have hB2 := hB1.below hb2 hB1.lt
           have hZ := hY.trans (hb2.mono hY.size)
           obtain ⟨g2, y0, y1, y2, y3, y4, y5, y6, y7⟩ := hB2.eight)
        | ((with_reducible refine (hK _ hZ).mono ?_); rintro e w3 ⟨rfl, hb3⟩))
      go_ret
      rw [HF.out]
      exact ⟨rfl, hZ.trans (hb3.mono hZ.size)⟩
    · rw [hr1] at hK
      cases hw1 : wrsB p.w
      all_goals
        rw [hw1] at hW
        have HF := Lib.hid hE
        rw [hr1, hw1] at HF
        clear hE hr1 hw1
        go_enter Tryz.func67, Tryz.ntmps67
        go_wp2_with (first
          | ((with_reducible refine (ht' _).mono ?_); rintro e w1 ⟨rfl, hb1⟩
             have hB1 := hB.below hb1 hB.lt
             have hY := hX.trans (hb1.mono hX.size)
             obtain ⟨g1, x0, x1, x2, x3, x4, x5, x6, x7⟩ := hB1.eight)
          | ((with_reducible refine (hs' _).mono ?_); rintro e w2 ⟨rfl, hb2⟩
             have hB2 := hB1.below hb2 hB1.lt
             have hZ := hY.trans (hb2.mono hY.size)
             obtain ⟨g2, y0, y1, y2, y3, y4, y5, y6, y7⟩ := hB2.eight)
          | ((with_reducible refine (hK _ hZ).mono ?_); rintro e w3 ⟨rfl, hb3⟩
             have hB3 := hB2.below hb3 hB2.lt
             have hQ := hZ.trans (hb3.mono hZ.size)
             obtain ⟨g3, z0, z1, z2, z3, z4, z5, z6, z7⟩ := hB3.eight)
          | ((with_reducible refine (hW _ hQ).mono ?_); rintro e w4 ⟨rfl, hb4⟩))
        go_ret
        rw [HF.out]
        exact ⟨rfl, hQ.trans (hb4.mono hQ.size)⟩
  · have HF := Lib.hid (show pendE p = 17 by unfold pendE; rw [ht, hsm, hz]; rfl)
    rw [hz] at hzr
    clear ht hsm hz
    go_enter Tryz.func67, Tryz.ntmps67
    go_wp2_with (first
      | ((with_reducible refine (ht' _).mono ?_); rintro e w1 ⟨rfl, hb1⟩
         have hB1 := hB.below hb1 hB.lt
         have hY := hX.trans (hb1.mono hX.size)
         obtain ⟨g1, x0, x1, x2, x3, x4, x5, x6, x7⟩ := hB1.eight)
      | ((with_reducible refine (hs' _).mono ?_); rintro e w2 ⟨rfl, hb2⟩))
    go_ret
    rw [HF.out]
    exact ⟨rfl, hY.trans (hb2.mono hY.size)⟩
end Go.Proofs.YtipacjbegfingaaGreat
