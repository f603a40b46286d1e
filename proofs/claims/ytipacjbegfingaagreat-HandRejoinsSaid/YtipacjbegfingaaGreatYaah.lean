/- The walk of recs.StateMay. -/
import Derived.Test.YtipacjbegfingaaGreatYaag
namespace Go.Proofs.YtipacjbegfingaaGreat
open Go.RowKit Fl
attribute [local go_sem] run_store_float

def inK (r : Rg) (k : ByteArray) : Bool := inR r (ofB k)
set_option maxRecDepth 100000 in
set_option maxHeartbeats 1000000 in
theorem inClos (r : Rg) (k : ByteArray) (B : Nat) (w : World) (hk : k.size ≤ maxLen) (hB : B < w.heap.size) (c0 : w.cell? ⟨B, 0, none⟩ = some (.int .i64 r.id)) (c1 : w.cell? ⟨B, 1, none⟩ = some (.int .i64 r.ep)) (c2 : w.cell? ⟨B, 2, none⟩ = some (.float .f64 r.lo)) (c3 : w.cell? ⟨B, 3, none⟩ = some (.float .f64 r.hi)) :
    Calls Tryz.prog 49 #[.string k, .pointer (some ⟨B, 0, none⟩)] w fun e w' => e = .returned (.bool (inK r k)) ∧ Below w.heap.size w w' := by
  have ho := fun w => of_any k w hk
  have hi := fun w => in_any r (ofB k) w
  go_enter Tryz.func49, Tryz.ntmps49
  go_wp2
  go_region_held3 (fun w' => w'.cell? ⟨B, 0, none⟩ = some (.int .i64 r.id) ∧ w'.cell? ⟨B, 1, none⟩ = some (.int .i64 r.ep) ∧ w'.cell? ⟨B, 2, none⟩ = some (.float .f64 r.lo) ∧ w'.cell? ⟨B, 3, none⟩ = some (.float .f64 r.hi))
    (first | exact ⟨c0, c1, c2, c3⟩ | exact ⟨(hb1.cell (p := ⟨_, _, none⟩) hB).trans c0, (hb1.cell (p := ⟨_, _, none⟩) hB).trans c1, (hb1.cell (p := ⟨_, _, none⟩) hB).trans c2, (hb1.cell (p := ⟨_, _, none⟩) hB).trans c3⟩)
    (first | ((with_reducible refine (ho _).mono ?_); rintro e w1 ⟨rfl, rfl⟩) | ((with_reducible refine (hi _).mono ?_); rintro e w1 ⟨rfl, hw1⟩; have hb1 : Below w.heap.size w w1 := by rw [← hw1]; exact (Below.refl _ _).drew.alloc (Nat.le_refl _) _))
  go_wp2
  go_ret
  exact ⟨rfl, hb1⟩

theorem all_drop {α : Type} {f : α → Bool} {l : List α} {k : Nat} {a : α} (h : l[k]? = some a) : (l.drop k).all f = (f a && (l.drop (k + 1)).all f) := by
  have h1 := List.getElem?_eq_some_iff.1 h
  rw [List.drop_eq_getElem_cons h1.1, h1.2]
  rfl
def AllRel {α : Type} (f : α → Bool) (l : List α) (w : World) (i : Value) (wr : World) : Prop := ∃ k : Nat, k ≤ l.length ∧ i = .int .i64 (k : Int) ∧ (l.drop k).all f = l.all f ∧ Below w.heap.size w wr
def inH (r : Rg) (h : Hs) : Bool := inK r h.key
def inP (r : Rg) (p : Pn) : Bool := p.r.all (inK r) && p.w.all fun a => inK r a.key
/-- may a range have that? -/
def mayS (s : Stt) : Bool := mayR s.r && s.f.may && s.c.may && decide (loadE s.h s.p = 0) && s.h.all (inH s.r) && s.p.all (inP s.r)
abbrev Stt.arr (s : Stt) (h p : Value) : Array Value := #[.int .i64 s.r.id, .int .i64 s.r.ep, .float .f64 s.r.lo, .float .f64 s.r.hi, .int .i64 s.f.w, .int .i64 s.f.l, .int .i64 s.f.n, .int .i64 s.c.w, .int .i64 s.c.l, .int .i64 s.c.n, h, p]

set_option maxRecDepth 100000 in
set_option maxHeartbeats 4000000 in
theorem stateMay_bad (s : Stt) (A1 A2 : Option Addr) (n1 n2 c1 c2 : Nat) (w : World) (hok : s.r.ok) (hbad : (mayR s.r && s.f.may && s.c.may) = false) :
    Calls Tryz.prog 18 #[.agg (s.arr (.slice A1 n1 c1) (.slice A2 n2 c2))] w fun e w' => e = .returned (.bool false) ∧ Below w.heap.size w w' := by
  have hm := fun w => may_any s.r w hok
  have hf := fun w => hmay_any s.f w
  have hc := fun w => hmay_any s.c w
  have hB0 := Blk.new w 30 (s.arr (.slice A1 n1 c1) (.slice A2 n2 c2))
  cases e1 : mayR s.r
  · rw [e1] at hm
    clear hbad e1
    go_enter Tryz.func18, Tryz.ntmps18
    go_wp2_with ((with_reducible refine (hm _).mono ?_); rintro e w1 ⟨rfl, rfl⟩)
    go_ret
    exact ⟨rfl, by go_grown⟩
  cases e2 : s.f.may
  · rw [e1] at hm
    rw [e2] at hf
    clear hbad e1 e2
    go_enter Tryz.func18, Tryz.ntmps18
    go_wp2_with (first
      | ((with_reducible refine (hm _).mono ?_); rintro e w1 ⟨rfl, rfl⟩)
      | ((with_reducible refine (hf _).mono ?_); rintro e w1 ⟨rfl, rfl⟩))
    go_ret
    exact ⟨rfl, by go_grown⟩
  have e3 : s.c.may = false := by rw [e1, e2] at hbad; simpa using hbad
  rw [e1] at hm
  rw [e2] at hf
  rw [e3] at hc
  clear hbad e1 e2 e3
  go_enter Tryz.func18, Tryz.ntmps18
  go_wp2_with (first
    | ((with_reducible refine (hm _).mono ?_); rintro e w1 ⟨rfl, rfl⟩)
    | ((with_reducible refine (hf _).mono ?_); rintro e w1 ⟨rfl, rfl⟩)
    | ((with_reducible refine (hc _).mono ?_); rintro e w1 ⟨rfl, rfl⟩))
  go_ret
  exact ⟨rfl, by go_grown⟩

set_option maxRecDepth 100000 in
set_option maxHeartbeats 4000000 in
theorem stateMay_good (s : Stt) (A1 A2 : Option Addr) (n1 n2 c1 c2 : Nat) (w : World) (hok : s.r.ok) (h1 : Sl HsRel 2 w w.heap.size A1 n1 s.h) (h2 : Sl PnRel 8 w w.heap.size A2 n2 s.p) (hH : SmallH s.h) (hQ : SmallP s.p)
    (hgood : (mayR s.r && s.f.may && s.c.may) = true) :
    Calls Tryz.prog 18 #[.agg (s.arr (.slice A1 n1 c1) (.slice A2 n2 c2))] w fun e w' => e = .returned (.bool (mayS s)) ∧ Below w.heap.size w w' := by
  have hS : mayS s = (decide (loadE s.h s.p = 0) && s.h.all (inH s.r) && s.p.all (inP s.r)) := by unfold mayS; rw [hgood]; simp
  have hl1 := h1.1
  have hl2 := h2.1
  have hge1 : n1 ≤ s.h.length := by omega
  have hle1 : s.h.length ≤ n1 := by omega
  have hge2 : n2 ≤ s.p.length := by omega
  have hle2 : s.p.length ≤ n2 := by omega
  have hn1 : n1 ≤ 1000000 := Nat.le_trans hge1 hH.1
  have hn2 : n2 ≤ 1000000 := Nat.le_trans hge2 hQ.1
  clear hl1 hl2
  have hm := fun w => may_any s.r w hok
  have hf := fun w => hmay_any s.f w
  have hc := fun w => hmay_any s.c w
  rw [Bool.and_eq_true, Bool.and_eq_true] at hgood
  obtain ⟨⟨e1, e2⟩, e3⟩ := hgood
  rw [e1] at hm
  rw [e2] at hf
  rw [e3] at hc
  clear e1 e2 e3
  have hB0 := Blk.new w 30 (s.arr (.slice A1 n1 c1) (.slice A2 n2 c2))
  go_enter Tryz.func18, Tryz.ntmps18
  go_wp2_with (first
    | ((with_reducible refine (hm _).mono ?_); rintro e w1 ⟨rfl, rfl⟩)
    | ((with_reducible refine (hf _).mono ?_); rintro e w1 ⟨rfl, rfl⟩)
    | ((with_reducible refine (hc _).mono ?_); rintro e w1 ⟨rfl, rfl⟩)
    | (go_at_call 48; fail))
  have hX : Below w.heap.size w ((((w.alloc (.cells (s.arr (.slice A1 n1 c1) (.slice A2 n2 c2)) 30)).alloc (.cells #[.int .i64 s.r.id, .int .i64 s.r.ep, .float .f64 s.r.lo, .float .f64 s.r.hi] 24)).alloc (.cells s.f.arr 26)).alloc (.cells s.c.arr 26)) := by go_grown
  refine (load_any A1 A2 n1 n2 c1 c2 s.h s.p _ ((h1.below HsRel.kept hX).more HsRel.kept hX.size) ((h2.below PnRel.kept hX).more PnRel.kept hX.size) hH hQ).mono ?_
  rintro e w0 ⟨vL, rfl, hb0⟩
  have b0 := (((hB0.alloc (.cells #[.int .i64 s.r.id, .int .i64 s.r.ep, .float .f64 s.r.lo, .float .f64 s.r.hi] 24)).alloc (.cells s.f.arr 26)).alloc (.cells s.c.arr 26))
  have b := b0.below hb0 b0.lt
  have hw0 : Below w.heap.size w w0 := hX.trans (hb0.mono hX.size)
  clear hm hf hc hB0 hX hb0 b0
  have y0 := b.cell 0
  have y1 := b.cell 1
  have y2 := b.cell 2
  have y3 := b.cell 3
  have y10 := b.cell 10
  have y11 := b.cell 11
  simp only [List.getElem?_toArray, List.getElem?_cons_succ, List.getElem?_cons_zero] at y0 y1 y2 y3 y10 y11
  have lb := b.lt
  by_cases hE : loadE s.h s.p = 0
  · have hq : (loadE s.h s.p != 0) = false := by simp [hE]
    have hS2 : mayS s = (s.h.all (inH s.r) && s.p.all (inP s.r)) := by rw [hS, hE]; simp
    clear hS hE
    generalize loadE s.h s.p = ee at *
    go_wp2
    go_loopw [44] (fun i wr => AllRel (inH s.r) s.h w0 i wr) (fun i _ => n1 - (intOf i).toNat)
    case atStart => exact ⟨0, by omega, rfl, rfl, Below.refl _ _⟩
    case round =>
      obtain ⟨k, hk, rfl, ha0, hb⟩ := hrel
      have hzz := hb.size
      have hww : Below w.heap.size w wr := hw0.trans (hb.mono hw0.size)
      have lbr : w.heap.size < wr.heap.size := by omega
      have lbr1 : w.heap.size < wr.heap.size + 1 := by omega
      by_cases hlt : k < n1
      · obtain ⟨ad, a, A', n', c', rfl, ha, hbk, hkz, d0, d1, hn', hc', hsv⟩ := ((h1.below HsRel.kept hww).more HsRel.kept hww.size).hs hlt
        have hd1 : decide ((k : Int) < (n1 : Int)) = true := by simp; omega
        have hk0 : (0 : Int) ≤ (k : Int) := by omega
        have hk1 : (k : Int) < (n1 : Int) := by omega
        rw [all_drop ha] at ha0
        have hX : Below w0.heap.size w0 (wr.alloc (.cells #[.string a.key, .slice A' n' c'] 59)) := hb.alloc hzz _
        have hI := inClos s.r a.key w.heap.size (wr.alloc (.cells #[.string a.key, .slice A' n' c'] 59)) (reach_max hkz) (by simp; omega) ((hX.cell (p := ⟨_, _, none⟩) lb).trans y0) ((hX.cell (p := ⟨_, _, none⟩) lb).trans y1) ((hX.cell (p := ⟨_, _, none⟩) lb).trans y2) ((hX.cell (p := ⟨_, _, none⟩) lb).trans y3)
        by_cases hin : inH s.r a = true
        · have HT := Lib.hid (show (s.h.drop (k + 1)).all (inH s.r) = s.h.all (inH s.r) by rw [← ha0, hin]; rfl)
          rw [show inK s.r a.key = true from hin] at hI
          clear ha0 ha hin
          go_wp2_with ((with_reducible refine hI.mono ?_); rintro e w2 ⟨rfl, hb2⟩)
          go_roundw
          case rel => exact ⟨k + 1, by omega, by go_num, HT.out, hX.trans (hb2.mono hX.size)⟩
          case measure => simp [intOf]; omega
        · have hif : inH s.r a = false := by simpa using hin
          have HF := Lib.hid (show mayS s = false by rw [hS2, ← ha0, hif]; rfl)
          rw [show inK s.r a.key = false from hif] at hI
          clear ha0 ha hin hif
          go_wp2_with ((with_reducible refine hI.mono ?_); rintro e w2 ⟨rfl, hb2⟩)
          go_ret
          rw [HF.out]
          exact ⟨rfl, (hw0.trans (hX.mono hw0.size)).trans (hb2.mono (Nat.le_trans hw0.size hX.size))⟩
      · have hd1 : decide ((k : Int) < (n1 : Int)) = false := by simp; omega
        have hS3 : mayS s = s.p.all (inP s.r) := by rw [hS2, ← ha0, List.drop_of_length_le (by omega)]; rfl
        have z11 := (hb.cell (p := ⟨w.heap.size, 11, none⟩) lb).trans y11
        clear ha0 hS2
        go_wp2
        obtain ⟨w1, rfl⟩ : ∃ w1, w1 = wr := ⟨_, rfl⟩
        clear lbr lbr1 z11
        go_loopw [57] (fun i wr => AllRel (inP s.r) s.p w0 i wr) (fun i _ => n2 - (intOf i).toNat)
        case atStart => exact ⟨0, by omega, rfl, rfl, hb⟩
        case round =>
          clear hb hzz hww
          obtain ⟨k2, hk2, rfl, ha0, hb⟩ := hrel
          have hzz := hb.size
          have hww : Below w.heap.size w wr := hw0.trans (hb.mono hw0.size)
          by_cases hlt2 : k2 < n2
          · obtain ⟨ad, x, A3, n3, c3, A4, n4, c4, rfl, ha, hbk, hxt, hxs, d0, d1, d2, d3, d4, d5, d6, d7, hn3, hc3, hs3, hn4, hc4, hs4⟩ := ((h2.below PnRel.kept hww).more PnRel.kept hww.size).pn hlt2
            have hd1 : decide ((k2 : Int) < (n2 : Int)) = true := by simp; omega
            have hk0 : (0 : Int) ≤ (k2 : Int) := by omega
            have hk1 : (k2 : Int) < (n2 : Int) := by omega
            have hsm := hQ.2 x (List.mem_of_getElem? ha)
            have hl3 := hs3.1
            have hl4 := hs4.1
            rw [all_drop ha] at ha0
            have hX : Below w0.heap.size w0 (wr.alloc (.cells (x.arr (.slice A3 n3 c3) (.slice A4 n4 c4)) 45)) := hb.alloc hzz _
            have hXr : Below wr.heap.size wr (wr.alloc (.cells (x.arr (.slice A3 n3 c3) (.slice A4 n4 c4)) 45)) := by go_grown
            have i9 := Blk.new wr 45 (x.arr (.slice A3 n3 c3) (.slice A4 n4 c4))
            have hr := (hs3.below KyRel.kept hXr).more KyRel.kept hXr.size
            have hw := (hs4.below WtRel.kept hXr).more WtRel.kept hXr.size
            clear ha
            go_wp2
            generalize hg9 : wr.heap.size = g9 at *
            obtain ⟨w3, hw3e⟩ : ∃ w3, w3 = wr.alloc (.cells (x.arr (.slice A3 n3 c3) (.slice A4 n4 c4)) 45) := ⟨_, rfl⟩
            rw [← hw3e] at hX i9 hr hw ⊢
            clear hw3e hXr d0 d1 d2 d3 d4 d5 d6 d7 hs3 hs4 hg9
            have hl9 := i9.lt
            have hwx : Below w.heap.size w w3 := hw0.trans (hX.mono hw0.size)
            go_loopw [64] (fun i wr => AllRel (inK s.r) x.r w3 i wr) (fun i _ => n3 - (intOf i).toNat)
            case atStart => exact ⟨0, by omega, rfl, rfl, Below.refl _ _⟩
            case round =>
              obtain ⟨k3, hk3, rfl, hi0, hb3⟩ := hrel
              have hz3 := hb3.size
              have hX3 : Below w0.heap.size w0 wr := hX.trans (hb3.mono hX.size)
              by_cases hlt3 : k3 < n3
              · obtain ⟨ad3, a, rfl, ha, hbk3, hok3, e0⟩ := ((hr.below KyRel.kept hb3).more KyRel.kept hb3.size).ky hlt3
                have hd3 : decide ((k3 : Int) < (n3 : Int)) = true := by simp; omega
                have hk03 : (0 : Int) ≤ (k3 : Int) := by omega
                have hk13 : (k3 : Int) < (n3 : Int) := by omega
                rw [all_drop ha] at hi0
                have hI := inClos s.r a w.heap.size wr (reach_max hok3) (by have := hX3.size; omega) ((hX3.cell (p := ⟨_, _, none⟩) lb).trans y0) ((hX3.cell (p := ⟨_, _, none⟩) lb).trans y1) ((hX3.cell (p := ⟨_, _, none⟩) lb).trans y2) ((hX3.cell (p := ⟨_, _, none⟩) lb).trans y3)
                by_cases hin : inK s.r a = true
                · have HT := Lib.hid (show (x.r.drop (k3 + 1)).all (inK s.r) = x.r.all (inK s.r) by rw [← hi0, hin]; rfl)
                  rw [hin] at hI
                  clear hi0 ha hin
                  go_wp2_with ((with_reducible refine hI.mono ?_); rintro e w5 ⟨rfl, hb5⟩)
                  go_roundw
                  case rel => exact ⟨k3 + 1, by omega, by go_num, HT.out, hb3.trans (hb5.mono hz3)⟩
                  case measure => simp [intOf]; omega
                · have hif : inK s.r a = false := by simpa using hin
                  have HF := Lib.hid (show mayS s = false by
                    rw [hS3, ← ha0]
                    unfold inP
                    rw [← hi0, hif]
                    rfl)
                  rw [hif] at hI
                  clear hi0 ha hin hif
                  go_wp2_with ((with_reducible refine hI.mono ?_); rintro e w5 ⟨rfl, hb5⟩)
                  go_ret
                  rw [HF.out]
                  exact ⟨rfl, (hw0.trans (hX3.mono hw0.size)).trans (hb5.mono (Nat.le_trans hw0.size hX3.size))⟩
              · have hd3 : decide ((k3 : Int) < (n3 : Int)) = false := by simp; omega
                have hrr : x.r.all (inK s.r) = true := by rw [← hi0, List.drop_of_length_le (by omega)]; rfl
                have hip : inP s.r x = x.w.all fun a => inK s.r a.key := by unfold inP; rw [hrr]; rfl
                have j9 := i9.below hb3 hl9
                have u7 := j9.cell 7
                simp only [List.getElem?_toArray, List.getElem?_cons_succ, List.getElem?_cons_zero] at u7
                have hwb := (hw.below WtRel.kept hb3).more WtRel.kept hb3.size
                clear hi0 hrr
                go_wp2
                obtain ⟨w4, rfl⟩ : ∃ w4, w4 = wr := ⟨_, rfl⟩
                clear u7
                go_loopw [76] (fun i wr => AllRel (fun a : Wt => inK s.r a.key) x.w w4 i wr) (fun i _ => n4 - (intOf i).toNat)
                case atStart => exact ⟨0, by omega, rfl, rfl, Below.refl _ _⟩
                case round =>
                  obtain ⟨k4, hk4, rfl, hi0, hb4⟩ := hrel
                  have hz4 := hb4.size
                  have hX4 : Below w0.heap.size w0 wr := hX3.trans (hb4.mono hX3.size)
                  by_cases hlt4 : k4 < n4
                  · obtain ⟨ad4, a, rfl, ha, hbk4, hok4, e0, e1, e2, e3⟩ := ((hwb.below WtRel.kept hb4).more WtRel.kept hb4.size).wt hlt4
                    have hd4 : decide ((k4 : Int) < (n4 : Int)) = true := by simp; omega
                    have hk04 : (0 : Int) ≤ (k4 : Int) := by omega
                    have hk14 : (k4 : Int) < (n4 : Int) := by omega
                    rw [all_drop ha] at hi0
                    have hX5 : Below w0.heap.size w0 (wr.alloc (.cells #[.string a.key, .int .i64 a.v.k, .float .f64 a.v.n, .string a.v.t] 86)) := hX4.alloc hX4.size _
                    have hI := inClos s.r a.key w.heap.size (wr.alloc (.cells #[.string a.key, .int .i64 a.v.k, .float .f64 a.v.n, .string a.v.t] 86)) (reach_max hok4.1) (by have := hX5.size; omega) ((hX5.cell (p := ⟨_, _, none⟩) lb).trans y0) ((hX5.cell (p := ⟨_, _, none⟩) lb).trans y1) ((hX5.cell (p := ⟨_, _, none⟩) lb).trans y2) ((hX5.cell (p := ⟨_, _, none⟩) lb).trans y3)
                    by_cases hin : inK s.r a.key = true
                    · have HT := Lib.hid (show (x.w.drop (k4 + 1)).all (fun a : Wt => inK s.r a.key) = x.w.all (fun a : Wt => inK s.r a.key) by rw [← hi0, hin]; rfl)
                      rw [hin] at hI
                      clear hi0 ha hin
                      go_wp2_with ((with_reducible refine hI.mono ?_); rintro e w5 ⟨rfl, hb5⟩)
                      go_roundw
                      case rel => exact ⟨k4 + 1, by omega, by go_num, HT.out, (hb4.alloc hz4 _).trans (hb5.mono (by simp; omega))⟩
                      case measure => simp [intOf]; omega
                    · have hif : inK s.r a.key = false := by simpa using hin
                      have HF := Lib.hid (show mayS s = false by
                        rw [hS3, ← ha0, hip, ← hi0, hif]
                        rfl)
                      rw [hif] at hI
                      clear hi0 ha hin hif
                      go_wp2_with ((with_reducible refine hI.mono ?_); rintro e w5 ⟨rfl, hb5⟩)
                      go_ret
                      rw [HF.out]
                      exact ⟨rfl, (hw0.trans (hX5.mono hw0.size)).trans (hb5.mono (Nat.le_trans hw0.size hX5.size))⟩
                  · have hd4 : decide ((k4 : Int) < (n4 : Int)) = false := by simp; omega
                    have hpt : inP s.r x = true := by rw [hip, ← hi0, List.drop_of_length_le (by omega)]; rfl
                    have HT := Lib.hid (show (s.p.drop (k2 + 1)).all (inP s.r) = s.p.all (inP s.r) by rw [← ha0, hpt]; rfl)
                    clear hi0 ha0 hip hpt
                    go_wp2
                    go_roundw
                    case rel => exact ⟨k2 + 1, by omega, by go_num, HT.out, hX4⟩
                    case measure => simp [intOf]; omega
          · have hd1 : decide ((k2 : Int) < (n2 : Int)) = false := by simp; omega
            have HF := Lib.hid (show mayS s = true by rw [hS3, ← ha0, List.drop_of_length_le (by omega)]; rfl)
            clear ha0
            go_wp2
            go_ret
            rw [HF.out]
            exact ⟨rfl, hww⟩
  · have hq : (loadE s.h s.p != 0) = true := by simp [hE]
    have HF := Lib.hid (show mayS s = false by rw [hS]; simp [hE])
    clear hS
    go_wp2
    go_ret
    rw [HF.out]
    exact ⟨rfl, hw0⟩

theorem stateMay_any (s : Stt) (A1 A2 : Option Addr) (n1 n2 c1 c2 : Nat) (w : World) (hok : s.r.ok) (h1 : Sl HsRel 2 w w.heap.size A1 n1 s.h) (h2 : Sl PnRel 8 w w.heap.size A2 n2 s.p) (hH : SmallH s.h) (hQ : SmallP s.p) :
    Calls Tryz.prog 18 #[.agg (s.arr (.slice A1 n1 c1) (.slice A2 n2 c2))] w fun e w' => e = .returned (.bool (mayS s)) ∧ Below w.heap.size w w' := by
  by_cases h : (mayR s.r && s.f.may && s.c.may) = true
  · exact stateMay_good s A1 A2 n1 n2 c1 c2 w hok h1 h2 hH hQ h
  · have hb : (mayR s.r && s.f.may && s.c.may) = false := by simpa using h
    have e : mayS s = false := by unfold mayS; rw [hb]; rfl
    rw [e]
    exact stateMay_bad s A1 A2 n1 n2 c1 c2 w hok hb
end Go.Proofs.YtipacjbegfingaaGreat
