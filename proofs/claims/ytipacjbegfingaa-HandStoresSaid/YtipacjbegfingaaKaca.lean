/- The walk of the document's version where there is no history of the key. -/
import Derived.Test.YtipacjbegfingaaKabj
namespace Go.Proofs.Ytipacjbegfingaa
set_option linter.unusedVariables false
open Go.RowKit Fl
attribute [local go_sem] run_store_float

abbrev Hs.cl (a : Hs) (u : Value) : List Value := [.string a.key, u]
theorem hs_one1 (k : ByteArray) (A : Option Addr) (n c : Nat) : ∀ u ∈ ([.string k, .slice A n c] : List Value), u.oneCell' = true := by
  intro u hu
  simp only [List.mem_cons, List.not_mem_nil, or_false] at hu
  rcases hu with rfl | rfl <;> rfl
theorem hs_cells_one {w : World} {B : Nat} {cs : List Value} {a : Hs} (h : HsRel w B cs a) : ∀ u ∈ cs, u.oneCell' = true := by
  obtain ⟨v, rfl, _, A, n, c, rfl, _⟩ := h
  exact hs_one1 _ _ _ _
/-- the store with other histories -/
def NewH (w : World) (g : Nat) (vP : Value) (L : Sp) (B1 : Option Addr) (H : List Hs) (w' : World) : Prop := ∃ A9 n9 q9, RSh w' g A9 n9 q9 vP L H ∧ KeepN w w' ∧ Chg w w' g B1 ∧ ∀ p, A9 = some p → B1 = some p ∨ w.heap.size ≤ p.block
def HistR (key : ByteArray) (v : Vn) (l : List Hs) (w : World) (u i : Value) (wr : World) : Prop :=
  ∃ k : Nat, k ≤ l.length ∧ i = .int .i64 (k : Int) ∧ (∀ x ∈ l.take k, bl x.key key = true) ∧ RowR HsRel 76 2 (w.heap.size + 1) (oB wr.heap.size u) wr u (l.take k) ∧ Blk wr w.heap.size 79 v.arr ∧ Below w.heap.size w wr
set_option maxRecDepth 100000 in
set_option maxHeartbeats 8000000 in
theorem rversion_no (g : Nat) (B1 : Option Addr) (m1 d1 : Nat) (vP : Value) (L : Sp) (Hl : List Hs) (key : ByteArray) (v : Vn) (w : World) (h : RSh w g B1 m1 d1 vP L Hl) (hok : v.ok) (hkey : key.size ≤ 140737488351232) (hat : atFrom key 0 Hl < 0) (hne : ∀ x ∈ Hl, (x.key.toList == key.toList) = false) (hH : Hl.length ≤ 3000000) :
    Calls Try.prog 50 #[.pointer (some ⟨g, 0, none⟩), .string key, .agg v.arr] w fun e w' => e = .returned (.tuple #[]) ∧ NewH w g vP L B1 (insH key v Hl) w' := by
  obtain ⟨i2, hi2, iz0, iz1, iz2⟩ := info_parts hs_info
  have hm := h.m1
  have hle1 := h.le1
  have hd1m := h.d1m
  unfold maxLen at hm hd1m
  have hl := h.hs.1
  have hge : m1 ≤ Hl.length := by omega
  have hle : Hl.length ≤ m1 := by omega
  have hX : Below w.heap.size w (w.alloc (.cells v.arr 79)) := by go_grown
  have i5 : Blk (w.alloc (.cells v.arr 79)) w.heap.size 79 v.arr := Blk.new _ _ _
  have hA := rat3_any g B1 m1 d1 vP L Hl key _ (h.below hX)
  generalize atFrom key 0 Hl = z at *
  have hd : decide (z < 0) = true := decide_eq_true hat
  have hgw : g < w.heap.size := h.blk.lt
  have HH0 := Lib.hid h
  have HN := Lib.hid hne
  clear hat hne hl
  go_enter Try.func50, Try.ntmps50
  go_wp2_with fail
  refine hA.mono ?_
  rintro e w1 ⟨rfl, hb1⟩
  have j5 := i5.below hb1 i5.lt
  have hX1 := hX.trans (hb1.mono hX.size)
  clear hA hb1 i5 hX
  go_wp2_with fail
  go_loopw [7, 8] (fun u i wr => HistR key v Hl w u i wr) (fun _ i _ => m1 - (intOf i).toNat)
  case atStart => exact ⟨0, by omega, rfl, fun x hx => by simp at hx, RowR.nil _, j5, hX1⟩
  case round =>
    clear j5 hX1
    obtain ⟨k, hk, rfl, hall, hrow, b5, hb⟩ := hrel
    have hzz := hb.size
    have hr := h.below hb
    obtain ⟨gl, k0, k1, -, -, -⟩ := hr.blk.fiveC
    obtain ⟨l5, y0, y1, y2, y3, y4, y5⟩ := b5.six
    obtain ⟨Av, qv, rfl, hqv, hqvm⟩ := hrow.form
    have hlt5 := hrow.lt
    have hlen : (Hl.take k).length ≤ 3000000 := Nat.le_trans (List.length_take_le _ _) (by omega)
    by_cases hgo : ∃ a, Hl[k]? = some a ∧ bl a.key key = true
    · obtain ⟨a, ha, hless⟩ := hgo
      have hlt : k < m1 := by have := (List.getElem?_eq_some_iff.1 ha).1; omega
      obtain ⟨ad, a', A3, n3, c3, rfl, ha', hbk, hkz, e0, e1, hn3, hc3, hs3⟩ := hr.hist.hs hlt
      obtain rfl : a = a' := Option.some.inj (ha.symm.trans ha')
      obtain ⟨ad2, a2, A3', n3', c3', ex, ha2, hbk2, -, -, f1, hn3', hc3', ks3⟩ := h.hs.hs hlt
      injection ex with ex
      subst ex
      obtain rfl : a = a2 := Option.some.inj (ha.symm.trans ha2)
      have hdr : some (Value.slice A3 n3 c3) = some (.slice A3' n3' c3') := e1.symm.trans ((hb.cell (p := ⟨(ad.add (k * 2)).block, (ad.add (k * 2)).off + 1, none⟩) hbk2).trans f1)
      injection hdr with hdr
      injection hdr with qq1 qq2 qq3
      subst qq1 qq2 qq3
      have hd1 : decide ((k : Int) < (m1 : Int)) = true := by simp; omega
      have hk0 : (0 : Int) ≤ (k : Int) := by omega
      have hk1 : (k : Int) < (m1 : Int) := by omega
      have hbl : Op.bytesLess a.key.toList key.toList = true := hless
      have hpn : HsRel w w.heap.size [.string a.key, .slice A3 n3 c3] a := ⟨_, rfl, hkz, _, _, _, rfl, hn3, hc3, ks3⟩
      have HS := Lib.hid (show Hl.take (k + 1) = Hl.take k ++ [a] by rw [List.take_add_one, ha]; rfl)
      have HA := Lib.hid (show ∀ x ∈ Hl.take k ++ [a], bl x.key key = true from fun x hx => by
        rcases List.mem_append.1 hx with h1 | h1
        · exact hall x h1
        · simp only [List.mem_cons, List.not_mem_nil, or_false] at h1
          rw [h1]; exact hless)
      clear hall ha ha' ha2 hless f1
      generalize Hl.take k = T1 at *
      have hX : Below wr.heap.size wr (wr.alloc (.cells #[.string a.key, .slice A3 n3 c3] 76)) := by go_grown
      have hwX : Below w.heap.size w (wr.alloc (.cells #[.string a.key, .slice A3 n3 c3] 76)) := hb.trans (hX.mono hzz)
      have hrX := hrow.keepO HsRel.kept HsRel.mono (w' := wr.alloc (.cells #[.string a.key, .slice A3 n3 c3] 76)) hX.size (fun k hk => hX.block k hk)
      have hin : Inn HsRel (oB (wr.alloc (.cells #[.string a.key, .slice A3 n3 c3] 76)).heap.size (.slice Av T1.length qv)) (wr.alloc (.cells #[.string a.key, .slice A3 n3 c3] 76)) [.string a.key, .slice A3 n3 c3] a :=
        HsRel.kept.2 _ _ _ _ _ (HsRel.mono _ _ _ _ _ hpn fun p u hp hc => by
          rw [only_cell_in (oB_iff.2 ⟨by have := hwX.size; omega, fun e => by have := (hlt5 _ e).1; omega⟩)]
          exact (hwX.cell hp).trans hc) hwX.size
      obtain ⟨xs, hown0, hpush⟩ := hrX.ownO HsRel.kept HsRel.mono
      have HI := Lib.hid hin
      have HPu := Lib.hid hpush
      have hrd0 := reads_new' wr 76 [.string a.key, .slice A3 n3 c3] 2 rfl
      clear hpush hin hpn
      go_wp2_with (first
        | (at_builtin
           refine wpList_append_any _ rfl (.tmp 35) (.tmp 43) _ rfl (w.heap.size + 1) 76 i2 _ 2 40 Try.underlying27 hi2 iz0 iz1 iz2 rfl (by omega) (.slice Av T1.length qv) _ xs (by rfl) hown0 _ (some ⟨wr.heap.size, 0, none⟩) 1 1 [.string a.key, .slice A3 n3 c3] (by rfl)
             hrd0 (hs_one1 _ _ _ _) (by unfold maxLen; omega) (by omega) (by simp; omega) ?_
           intro v3 w3 hown3 hg3 hat3
           obtain ⟨A9, q9, rfl, hq9, hq9m⟩ := own_form hown3))
      have hrn := HPu.out [[.string a.key, .slice A3 n3 c3]] [a] w3 _ rfl (fun cs hcs => by simp only [List.mem_cons, List.not_mem_nil, or_false] at hcs; rw [hcs]; rfl) (fun i cs b h1 h2 => by
        cases i with
        | zero => simp only [List.getElem?_cons_zero, Option.some.injEq] at h1 h2; subst h1 h2; exact HI.out
        | succ i => simp at h1) (by simpa using hown3) hg3 hat3
      have hbw := hwX.grown hg3 hwX.size (fun q hq => by have := (hown0.lt q hq).1; omega)
      have b57 := (b5.alloc (.cells #[.string a.key, .slice A3 n3 c3] 76)).grown hg3 (fun e => by have := (hlt5 _ e.symm).1; omega)
      go_roundw
      case rel =>
        refine ⟨k + 1, by omega, by go_num, ?_, ?_, b57, hbw⟩
        · rw [HS.out]; exact HA.out
        · rw [HS.out]; exact hrn
      case measure => simp [intOf]; omega
    · have hend : ∀ a, Hl[k]? = some a → bl a.key key = false := fun a ha => by
        cases hx : bl a.key key
        · rfl
        · exact absurd ⟨a, ha, hx⟩ hgo
      have HP := Lib.hid (insH_none (v := v) hk HN.out hall hend)
      clear hgo hall
      generalize Hl.take k = T1 at *
      by_cases hlt : k < m1
      case' pos =>
        obtain ⟨ad, a, A3, n3, c3, rfl, ha, hbk, hkz, e0, e1, hn3, hc3, hs3⟩ := hr.hist.hs hlt
        have hd1 : decide ((k : Int) < (m1 : Int)) = true := by simp; omega
        have hk0 : (0 : Int) ≤ (k : Int) := by omega
        have hk1 : (k : Int) < (m1 : Int) := by omega
        have hbl : Op.bytesLess a.key.toList key.toList = false := hend a ha
        clear ha hend
        go_upto_region 8 with fail
        clear hbl e0 e1 hs3 hn3 hc3 hkz hk0 hk1 hbk
      case' neg =>
        have hd1 : decide ((k : Int) < (m1 : Int)) = false := by simp; omega
        clear hend
        go_upto_region 8 with fail
      all_goals
        have bv : Blk ((wr.alloc (.cells v.arr 79)).alloc (.cells #[.string key, .slice (some ⟨wr.heap.size, 0, none⟩) 1 1] 76)) wr.heap.size 79 v.arr := (Blk.new _ _ _).alloc _
        have hX : Below wr.heap.size wr ((wr.alloc (.cells v.arr 79)).alloc (.cells #[.string key, .slice (some ⟨wr.heap.size, 0, none⟩) 1 1] 76)) := by go_grown
        have hwX : Below w.heap.size w ((wr.alloc (.cells v.arr 79)).alloc (.cells #[.string key, .slice (some ⟨wr.heap.size, 0, none⟩) 1 1] 76)) := hb.trans (hX.mono hzz)
        have hrX := hrow.keepO HsRel.kept HsRel.mono (w' := (wr.alloc (.cells v.arr 79)).alloc (.cells #[.string key, .slice (some ⟨wr.heap.size, 0, none⟩) 1 1] 76)) hX.size (fun k hk => hX.block k hk)
        have hXs : ((wr.alloc (.cells v.arr 79)).alloc (.cells #[.string key, .slice (some ⟨wr.heap.size, 0, none⟩) 1 1] 76)).heap.size = wr.heap.size + 1 + 1 := by simp
        have hlX : wr.heap.size < ((wr.alloc (.cells v.arr 79)).alloc (.cells #[.string key, .slice (some ⟨wr.heap.size, 0, none⟩) 1 1] 76)).heap.size := by rw [hXs]; omega
        have hin : Inn HsRel (oB ((wr.alloc (.cells v.arr 79)).alloc (.cells #[.string key, .slice (some ⟨wr.heap.size, 0, none⟩) 1 1] 76)).heap.size (.slice Av T1.length qv)) ((wr.alloc (.cells v.arr 79)).alloc (.cells #[.string key, .slice (some ⟨wr.heap.size, 0, none⟩) 1 1] 76)) [.string key, .slice (some ⟨wr.heap.size, 0, none⟩) 1 1] (⟨key, [v]⟩ : Hs) :=
          ⟨_, rfl, hkey, some ⟨wr.heap.size, 0, none⟩, 1, 1, rfl, Nat.le_refl _, by unfold maxLen; omega, rfl, fun i a hi => by
            cases i with
            | zero =>
              obtain rfl : v = a := Option.some.inj hi
              refine ⟨⟨wr.heap.size, 0, none⟩, Vn.cells v, rfl, hlX, rfl, fun j u hj => ?_, rfl, hok⟩
              have e : (⟨wr.heap.size, 0, none⟩ : Addr).add (0 * 6 + j) = ⟨wr.heap.size, j, none⟩ := by unfold Addr.add; split <;> simp_all
              rw [e, only_cell_in (oB_iff.2 ⟨hlX, fun e => absurd (hlt5 _ e).2 (Nat.lt_irrefl _)⟩), bv.cell]
              simpa [Vn.cells] using hj
            | succ i => simp at hi⟩
        obtain ⟨xs, hown0, hpush⟩ := hrX.ownO HsRel.kept HsRel.mono
        have HI := Lib.hid hin
        have HPu := Lib.hid hpush
        have HXs := Lib.hid hXs
        have hrd0 : Reads ((wr.alloc (.cells v.arr 79)).alloc (.cells #[.string key, .slice (some ⟨wr.heap.size, 0, none⟩) 1 1] 76)) (wr.heap.size + 1 + 1) 2 (some ⟨wr.heap.size + 1, 0, none⟩) 1 [.string key, .slice (some ⟨wr.heap.size, 0, none⟩) 1 1] := by
          have h9 := reads_new' (wr.alloc (.cells v.arr 79)) 76 [.string key, .slice (some ⟨wr.heap.size, 0, none⟩) 1 1] 2 rfl
          rw [World.size_alloc] at h9
          exact h9
        have hgX := (HH0.out.below hwX).blk
        obtain ⟨cssP, hcl, hcsz, hcr, hcp⟩ := HH0.out.hs.css (by omega)
        have HCR := Lib.hid hcr
        have HCP := Lib.hid hcp
        have HCZ := Lib.hid hcsz
        clear hpush hin k0 k1 hcr hcp hcsz bv hXs
        have hkm : (k : Int) ≤ (m1 : Int) := by omega
        have hkn : (0 : Int) ≤ (k : Int) := by omega
        go_upto_region 9 with (first
          | (at_builtin
             refine wpList_append_any _ rfl (.tmp 47) (.tmp 52) _ rfl (w.heap.size + 1) 76 i2 _ 2 40 Try.underlying27 hi2 iz0 iz1 iz2 rfl (by omega) (.slice Av T1.length qv) _ xs (by rfl) hown0 _ (some ⟨wr.heap.size + 1, 0, none⟩) 1 1 [.string key, .slice (some ⟨wr.heap.size, 0, none⟩) 1 1] (by rfl)
               hrd0 (hs_one1 _ _ _ _) (by unfold maxLen; omega) (by omega) (by simp <;> omega) ?_
             intro v7 w7 hown7 hg7 hat7))
        have hrow7 := HPu.out [[.string key, .slice (some ⟨wr.heap.size, 0, none⟩) 1 1]] [(⟨key, [v]⟩ : Hs)] w7 _ rfl (fun cs hcs => by simp only [List.mem_cons, List.not_mem_nil, or_false] at hcs; rw [hcs]; rfl) (fun i cs b h1 h2 => by
          cases i with
          | zero => simp only [List.getElem?_cons_zero, Option.some.injEq] at h1 h2; subst h1 h2; exact HI.out
          | succ i => simp at h1) (by simpa using hown7) hg7 hat7
        have hgb := hgX.grown hg7 (fun e => by have := (hlt5 _ e.symm).1; omega)
        have hw7 := hwX.grown hg7 hwX.size (fun q hq => by have := (hown0.lt q hq).1; omega)
        have hcell : ∀ q u, q.block < w.heap.size → w.cell? q = some u → w7.cell? q = some u := fun q u hq hc => (hw7.cell hq).trans hc
        have z1 := hgb.cell 0
        simp only [List.getElem?_toArray, List.getElem?_cons_zero] at z1
        have zf := hgb.frozen 0
        have zl := hgb.lt
        have hX7 := hg7.size
        rw [HXs.out] at hX7
        obtain ⟨T2, hT2⟩ : ∃ T2, T2 = T1 ++ [(⟨key, [v]⟩ : Hs)] := ⟨_, rfl⟩
        rw [← hT2] at hrow7
        have HT2 := Lib.hid hT2
        have hT2l : T2.length ≤ 3000001 := by rw [hT2]; simp; omega
        clear hT2
        obtain ⟨A7, q7, rfl, hq7, hq7m⟩ := hrow7.form
        have hlt7 := hrow7.lt
        obtain ⟨xs7, hown8, hpush8⟩ := hrow7.ownO HsRel.kept HsRel.mono
        have HPu8 := Lib.hid hpush8
        have hrdP := (HCR.out.monoC hcell).cut (k := k) (cap := d1) (by omega) hle1
        rw [drop_flat 2 _ _ HCZ.out] at hrdP
        have hone : ∀ u ∈ (cssP.drop k).flatten, u.oneCell' = true := fun u hu => by
          obtain ⟨cs, hcs, hu⟩ := List.mem_flatten.1 hu
          obtain ⟨i, hi⟩ := List.getElem?_of_mem (List.mem_of_mem_drop hcs)
          have hil : i < Hl.length := by have := (List.getElem?_eq_some_iff.1 hi).1; omega
          exact hs_cells_one (HCP.out i cs _ hi (List.getElem?_eq_getElem hil)) u hu
        have HON := Lib.hid hone
        have hw7z := hw7.size
        have hle7 : w.heap.size + 1 ≤ w7.heap.size := by omega
        clear hpush8 hown7 hown0 hone hcell y0 y1 y2 y3 y4 y5
        try rw [if_neg (show ¬ d1 = k by omega)] at hrdP
        go_wp2_with (first
          | (at_builtin
             refine wpList_append_any _ rfl (.tmp 55) (.tmp 61) _ rfl (w.heap.size + 1) 76 i2 _ 2 40 Try.underlying27 hi2 iz0 iz1 iz2 rfl (by omega) (.slice A7 T2.length q7) _ xs7 (by rfl) hown8 _ _ (m1 - k) (d1 - k) _ (by rfl) hrdP HON.out (by unfold maxLen; omega) (by omega) (by omega) ?_
             intro v9 w9 hown9 hg9 hat9
             have hgc := hgb.grown hg9 (fun e => by have := (hlt7 _ e.symm).1; omega)
             have z9 := hgc.cell 0
             simp only [List.getElem?_toArray, List.getElem?_cons_zero] at z9
             have f9 := hgc.frozen 0
             have l9 := hgc.lt
             obtain ⟨A9, q9, rfl, hq9, hq9m⟩ := own_form hown9))
        all_goals ((try simp only [Exit.inBlock, Exit.then]); refine bodyPost_ret (results_none rfl _ _ _) rfl ?_)
        all_goals
          have hrow9 := HPu8.out (cssP.drop k) (Hl.drop k) w9 (.slice A9 (T2.length + (m1 - k)) q9) (by simp only [List.length_drop]; omega) (fun cs hcs => HCZ.out cs (List.mem_of_mem_drop hcs)) (fun i cs b h1 h2 => by
            rw [List.getElem?_drop] at h1 h2
            exact HsRel.kept.2 _ _ _ _ _ (HsRel.mono _ _ _ _ _ (HCP.out _ cs b h1 h2) fun q u hq hc => by
              rw [only_cell_in (oB_iff.2 ⟨by omega, fun e => by have := (hlt7 _ e).1; omega⟩)]
              exact (hw7.cell hq).trans hc) hw7z) (by rw [show (Hl.drop k).length = m1 - k by simp only [List.length_drop]; omega]; exact hown9) hg9 hat9
          obtain ⟨o1, o2, o3, o4⟩ := HH0.out.put_end (hw7.grown hg9 hw7z (fun q hq => by have := (hlt7 q hq).1; omega)) hgc hrow9 (Nat.le_succ _)
          rw [HP.out]
          refine ⟨rfl, A9, T2.length + (m1 - k), q9, ?_, o2, o3, o4⟩
          have e9 : T2 ++ Hl.drop k = T1 ++ ⟨key, [v]⟩ :: Hl.drop k := by rw [HT2.out, List.append_assoc]; rfl
          rw [← e9]
          exact o1
end Go.Proofs.Ytipacjbegfingaa
