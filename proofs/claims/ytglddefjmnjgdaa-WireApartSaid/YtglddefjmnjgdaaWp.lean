/- The walk of WireApart. -/
import Derived.Test.YtglddefjmnjgdaaWd
namespace Go.Proofs.Ytglddefjmnjgdaa
open Go.RowKit Fl

/-- the rows of two writers are not one -/
def Dis (v v2 : Value) : Prop := ∀ k, v.ownBlock = some k → v2.ownBlock ≠ some k
theorem Dis.symm {v v2 : Value} (h : Dis v v2) : Dis v2 v := fun k e e2 => h k e2 e
theorem Dis.none (v : Value) : Dis v (.slice none 0 0) := fun k _ e => by simp [Value.ownBlock] at e
section
variable {w w' : World} {B B2 g g2 : Nat} {v v' v2 : Value} {bs b2 : List UInt8}
theorem Wr.own_kind (h : Wr w B g v bs) {k : Nat} {cs : Array Value} (hb : Blk w k 65 cs) : v.ownBlock ≠ some k := by
  intro e
  obtain ⟨c, fz, hc⟩ := Go.Lib.ownsRow_kind h.row k e
  unfold Blk at hb
  rw [hb] at hc
  simp at hc
theorem Wr.beside (h2 : Wr w B g2 v2 b2) (h : Wr w B g v bs) (hf : Foot w w' g v v') (hg : g2 ≠ g) (hd : Dis v v2) : Wr w' B g2 v2 b2 ∧ Dis v' v2 := by
  refine ⟨h2.far hf hg (fun e => h.own_kind h2.blk e.symm) (h2.own_kind h.blk) ?_, ?_⟩
  · cases e : v2.ownBlock with
    | none => exact .inl rfl
    | some k => exact .inr fun e2 => hd k e2.symm e
  · intro k e e2
    rcases hf.own with e3 | ⟨j, e3, hj⟩
    · exact hd k (e3.symm.trans e) e2
    · have := h2.own_lt k e2
      rw [e3] at e; injection e; omega
end

structure Three (w wr : World) (ga gb gc : Nat) (va vb vc : Value) (la lb lc : List UInt8) : Prop where
  a : Wr wr w.heap.size ga va la
  b : Wr wr w.heap.size gb vb lb
  c : Wr wr w.heap.size gc vc lc
  ab : Dis va vb
  ac : Dis va vc
  bc : Dis vb vc
  below : Below w.heap.size w wr
section
variable {w wr w' : World} {ga gb gc : Nat} {va vb vc v' : Value} {la lb lc l' : List UInt8}
theorem Three.put_a (h : Three w wr ga gb gc va vb vc la lb lc) (hab : ga ≠ gb) (hac : ga ≠ gc) (hw : Wr w' w.heap.size ga v' l') (hf : Foot wr w' ga va v') : Three w w' ga gb gc v' vb vc l' lb lc := by
  obtain ⟨h1, h2⟩ := h.b.beside h.a hf (fun e => hab e.symm) h.ab
  obtain ⟨h3, h4⟩ := h.c.beside h.a hf (fun e => hac e.symm) h.ac
  exact ⟨hw, h1, h3, h2, h4, h.bc, h.below.trans (hf.below h.a)⟩
theorem Three.put_b (h : Three w wr ga gb gc va vb vc la lb lc) (hab : ga ≠ gb) (hbc : gb ≠ gc) (hw : Wr w' w.heap.size gb v' l') (hf : Foot wr w' gb vb v') : Three w w' ga gb gc va v' vc la l' lc := by
  obtain ⟨h1, h2⟩ := h.a.beside h.b hf hab h.ab.symm
  obtain ⟨h3, h4⟩ := h.c.beside h.b hf (fun e => hbc e.symm) h.bc
  exact ⟨h1, hw, h3, h2.symm, h.ac, h4, h.below.trans (hf.below h.b)⟩
theorem Three.put_c (h : Three w wr ga gb gc va vb vc la lb lc) (hac : ga ≠ gc) (hbc : gb ≠ gc) (hw : Wr w' w.heap.size gc v' l') (hf : Foot wr w' gc vc v') : Three w w' ga gb gc va vb v' la lb l' := by
  obtain ⟨h1, h2⟩ := h.a.beside h.c hf hac h.ac.symm
  obtain ⟨h3, h4⟩ := h.b.beside h.c hf hbc h.bc.symm
  exact ⟨h1, h3, hw, h.ab, h2.symm, h4.symm, h.below.trans (hf.below h.c)⟩
theorem Three.keep (h : Three w wr ga gb gc va vb vc la lb lc) (hb : Below wr.heap.size wr w') : Three w w' ga gb gc va vb vc la lb lc :=
  ⟨h.a.below hb, h.b.below hb, h.c.below hb, h.ab, h.ac, h.bc, h.below.trans (hb.mono h.below.size)⟩
end

def LoopP (w : World) (l : List It) (ga gb gc : Nat) (i : Value) (wr : World) : Prop :=
  ∃ (k : Nat) (va vb vc : Value), k ≤ l.length ∧ i = .int .i64 (k : Int) ∧ Three w wr ga gb gc va vb vc (encL (l.take k)) [] (encL (l.take k))
def LoopQ (w : World) (l m : List It) (ga gb gc : Nat) (i : Value) (wr : World) : Prop :=
  ∃ (k : Nat) (va vb vc : Value), k ≤ m.length ∧ i = .int .i64 (k : Int) ∧ Three w wr ga gb gc va vb vc (encL l) (encL (m.take k)) (encL l ++ encL (m.take k))

set_option maxRecDepth 100000 in
set_option maxHeartbeats 8000000 in
theorem apart_walk (A : Option Addr) (n c : Nat) (l : List It) (A2 : Option Addr) (n2 c2 : Nat) (m : List It) (w : World) (h : Sl ItRel 5 w w.heap.size A n l) (hn : n ≤ maxLen) (h2 : Sl ItRel 5 w w.heap.size A2 n2 m) (hn2 : n2 ≤ maxLen) :
    Calls Try.prog 5 #[.slice A n c, .slice A2 n2 c2] w fun e w' => e = .returned (.bool true) ∧ Below w.heap.size w w' := by
  obtain ⟨i0, hi0, hz0, hz1, hz2⟩ := info_parts u8_info
  have hmx := hn
  have hmx2 := hn2
  unfold maxLen at hn hn2
  have hlen : l.length = n := h.1
  have hle : l.length ≤ n := by omega
  have hge : n ≤ l.length := by omega
  have hlen2 : m.length = n2 := h2.1
  have hle2 : m.length ≤ n2 := by omega
  have hge2 : n2 ≤ m.length := by omega
  have hokl := h.all_ok
  have hokm := h2.all_ok
  clear hlen hlen2
  by_cases hf : fewB l = true
  · by_cases hf2 : fewB m = true
    · go_enter Try.func5, Try.ntmps5
      go_wp2_with fail
      refine (first_any _).mono ?_
      rintro e w1 ⟨rfl, hb1⟩
      have h1 := (h.below ItRel.kept hb1).more ItRel.kept hb1.size
      have h12 := (h2.below ItRel.kept hb1).more ItRel.kept hb1.size
      go_wp2_with fail
      refine (few_any _ _ _ _ _ h1 hmx).mono ?_
      rintro e w1 ⟨rfl, rfl⟩
      rw [hf]
      go_wp2_with fail
      refine (few_any _ _ _ _ _ h12 hmx2).mono ?_
      rintro e w1 ⟨rfl, rfl⟩
      rw [hf2]
      have HF := Lib.hid hf
      have HF2 := Lib.hid hf2
      clear hf hf2 h1 h12
      go_wp2_with fail
      refine (wnew _).mono ?_
      rintro e w2 ⟨rfl, hw2⟩
      have ha2 := (Wr.new w1).down hb1.size
      rw [hw2] at ha2
      have hb2 : Below w.heap.size w w2 := by rw [← hw2]; exact hb1.alloc hb1.size _
      have hg1 := hb1.size
      have hg2 := ha2.lt
      generalize hga : w1.heap.size = ga at *
      clear hw2 hb1 hga
      go_wp2_with fail
      refine (wnew _).mono ?_
      rintro e w3 ⟨rfl, hw3⟩
      have hbx : Below w2.heap.size w2 w3 := by rw [← hw3]; exact (Below.refl _ _).alloc (Nat.le_refl _) _
      have hb3w := (Wr.new w2).down hb2.size
      rw [hw3] at hb3w
      have ha3 := ha2.below hbx
      have hb3 : Below w.heap.size w w3 := hb2.trans (hbx.mono hb2.size)
      have hg3 := hb3w.lt
      generalize hgb : w2.heap.size = gb at *
      clear hw3 hbx hb2 ha2 hgb
      go_wp2_with fail
      refine (wnew _).mono ?_
      rintro e w4 ⟨rfl, hw4⟩
      have hbx : Below w3.heap.size w3 w4 := by rw [← hw4]; exact (Below.refl _ _).alloc (Nat.le_refl _) _
      have hc4 := (Wr.new w3).down hb3.size
      rw [hw4] at hc4
      have ha4 := ha3.below hbx
      have hb4w := hb3w.below hbx
      have hb4 : Below w.heap.size w w4 := hb3.trans (hbx.mono hb3.size)
      generalize hgc : w3.heap.size = gc at *
      clear hw4 hbx hb3 ha3 hb3w hgc
      have hT4 : Three w w4 ga gb gc _ _ _ [] [] [] := ⟨ha4, hb4w, hc4, Dis.none _, Dis.none _, Dis.none _, hb4⟩
      clear ha4 hb4w hc4 hb4
      have hab : ga ≠ gb := by omega
      have hac : ga ≠ gc := by omega
      have hbc : gb ≠ gc := by omega
      go_wp2_with fail
      go_loopw [8] (fun i wr => LoopP w l ga gb gc i wr) (fun i _ => n - (intOf i).toNat)
      case atStart => exact ⟨0, _, _, _, by omega, rfl, hT4⟩
      case round =>
        obtain ⟨k, va, vb, vc, hk, rfl, hTk⟩ := hrel
        have hzk := hTk.below.size
        have htl := encL_take hokl HF.out k
        by_cases hlt : k < n
        · obtain ⟨ad, a, rfl, hl, hab', hok, c0, c1, c2', c3, c4⟩ := ((h.below ItRel.kept hTk.below).more ItRel.kept hzk).it hlt
          have HT := Lib.hid (encL_snoc hl)
          have hsm : a.s.size ≤ 20000 := by
            have h1 := (fewB_true HF.out).2
            have h2 := sum_mem_le (List.mem_of_getElem? hl)
            omega
          have hd1 : decide ((k : Int) < (n : Int)) = true := by simp; omega
          have HL := Lib.hid hl
          clear hl
          go_wp2_with fail
          refine (put_any _ _ _ _ _ _ hTk.a hzk hok (by omega)).mono ?_
          rintro e w5 ⟨rfl, v5, hW5, hf5⟩
          have hT5 := hTk.put_a hab hac hW5 hf5
          have hz5 := hT5.below.size
          clear c0 c1 c2' c3 c4 hTk hW5 hf5 hzk
          obtain ⟨ad', a', ead, hl', hab2, _, d0, d1, d2, d3, d4⟩ := ((h.below ItRel.kept hT5.below).more ItRel.kept hz5).it hlt
          obtain rfl : ad = ad' := Option.some.inj ead
          obtain rfl : a' = a := Option.some.inj (hl'.symm.trans HL.out)
          clear ead hl'
          go_wp2_with fail
          refine (put_any _ _ _ _ _ _ hT5.c hz5 hok (by omega)).mono ?_
          rintro e w6 ⟨rfl, v6, hW6, hf6⟩
          have hT6 := hT5.put_c hac hbc hW6 hf6
          clear hT5 hW6 hf6
          go_wp2
          go_roundw
          case rel =>
            refine ⟨k + 1, v5, vb, v6, by omega, by go_num, ?_⟩
            rw [HT.out]
            exact hT6
          case measure => simp [intOf]; omega
        · have he : l.take k = l := List.take_of_length_le (by omega)
          rw [he] at hTk htl
          have hd1 : decide ((k : Int) < (n : Int)) = false := by simp; omega
          clear he
          go_wp2_with fail
          go_loopw [9] (fun i wr => LoopQ w l m ga gb gc i wr) (fun i _ => n2 - (intOf i).toNat)
          case atStart => exact ⟨0, va, vb, vc, by omega, rfl, by simpa [encL] using hTk⟩
          case round =>
            obtain ⟨j, va, vb, vc, hj, rfl, hTj⟩ := hrel
            have hzj := hTj.below.size
            have htm := encL_take hokm HF2.out j
            have hlc : (encL l ++ encL (m.take j)).length ≤ 48000 := by rw [List.length_append]; omega
            by_cases hlt2 : j < n2
            · obtain ⟨ad, a, rfl, hl, hab', hok, c0, c1, c2', c3, c4⟩ := ((h2.below ItRel.kept hTj.below).more ItRel.kept hzj).it hlt2
              have HT := Lib.hid (encL_snoc hl)
              have hsm : a.s.size ≤ 20000 := by
                have h1 := (fewB_true HF2.out).2
                have h2 := sum_mem_le (List.mem_of_getElem? hl)
                omega
              have hd2 : decide ((j : Int) < (n2 : Int)) = true := by simp; omega
              have HL := Lib.hid hl
              clear hl
              go_wp2_with fail
              refine (put_any _ _ _ _ _ _ hTj.b hzj hok (by omega)).mono ?_
              rintro e w5 ⟨rfl, v5, hW5, hf5⟩
              have hT5 := hTj.put_b hab hbc hW5 hf5
              have hz5 := hT5.below.size
              clear c0 c1 c2' c3 c4 hTj hW5 hf5 hzj
              obtain ⟨ad', a', ead, hl', hab2, _, d0, d1, d2, d3, d4⟩ := ((h2.below ItRel.kept hT5.below).more ItRel.kept hz5).it hlt2
              obtain rfl : ad = ad' := Option.some.inj ead
              obtain rfl : a' = a := Option.some.inj (hl'.symm.trans HL.out)
              clear ead hl'
              go_wp2_with fail
              refine (put_any _ _ _ _ _ _ hT5.c hz5 hok (by omega)).mono ?_
              rintro e w6 ⟨rfl, v6, hW6, hf6⟩
              have hT6 := hT5.put_c hac hbc hW6 hf6
              clear hT5 hW6 hf6
              go_wp2
              go_roundw
              case rel =>
                refine ⟨j + 1, va, v5, v6, by omega, by go_num, ?_⟩
                rw [HT.out, ← List.append_assoc]
                exact hT6
              case measure => simp [intOf]; omega
            · have he : m.take j = m := List.take_of_length_le (by omega)
              rw [he] at hTj htm hlc
              have hd2 : decide ((j : Int) < (n2 : Int)) = false := by simp; omega
              clear he hTk
              generalize encL l = E at *
              generalize encL m = F at *
              go_wp2_with (first
                | ((with_reducible refine (first_any _).mono ?_)
                   rintro e w5 ⟨rfl, hb5⟩
                   have hT5 := hTj.keep hb5)
                | ((with_reducible refine (wbytes _ _ _ _ _ hT5.a (by omega)).mono ?_)
                   rintro e w6 ⟨A6, c6, rfl, hc6, hm6, hown6, hb6⟩
                   have hT6 := hT5.keep hb6)
                | ((with_reducible refine (wbytes _ _ _ _ _ hT6.b (by omega)).mono ?_)
                   rintro e w7 ⟨A7, c7, rfl, hc7, hm7, hown7, hb7⟩
                   have hT7 := hT6.keep hb7
                   have hown67 := hown6.kept (row := none) ⟨hb7.os, hb7.tape, hb7.output, hb7.size, fun k hk _ => hb7.block k hk⟩ (by cases (Value.slice A6 E.length c6).ownBlock <;> simp)
                   have hz5 := hT5.below.size
                   have hz67 := hT6.below.size
                   have hz77 := hT7.below.size)
                | (at_builtin
                   refine wpList_append_any_g _ (by rfl) (.tmp 73) (.tmp 75) _ rfl w5.heap.size 5 i0 _ 1 1 Try.underlying31 hi0 hz0 hz1 hz2 rfl (by omega) (.slice A6 E.length c6) _ (bytesV E) (by rfl) hown67 w7.heap.size A7 F.length c7 (bytesV F) (by rfl)
                     (Reads.of_own hown7) (bytesV_one _) (by unfold maxLen; omega) (by omega) (Nat.le_trans hb6.size hb7.size) ?_
                   intro v8 w8 hown8 hg8 hat8
                   have hb8 : Below w5.heap.size w5 w8 := Below.grown (hb6.trans (hb7.mono hb6.size)) hg8 (Nat.le_trans hb6.size hb7.size) (fun q hq => (hown6.lt q hq).1)
                   have hT8 := hT5.keep hb8
                   have hown8' : w8.ownsRow w5.heap.size 5 1 v8 (E ++ F).length (bytesV (E ++ F)) := by rw [List.length_append, bytesV, List.map_append]; exact hown8
                   rw [← List.length_append] at hown8
                   obtain ⟨A8, c8, rfl, hc8, hm8⟩ := own_form hown8)
                | ((with_reducible refine (wbytes _ _ _ _ _ hT8.c (by omega)).mono ?_)
                   rintro e w9 ⟨A9, c9, rfl, hc9, hm9, hown9, hb9⟩
                   have hrow8 : Row w8 A8 c8 (E ++ F) := ⟨Reads.of_own hown8'⟩
                   have hrow9 := hrow8.below hb9
                   have hT9 := hT8.keep hb9
                   have hr8 := hrow9.reads
                   have hr9 := Reads.of_own hown9
                   rw [List.length_append] at hr8 hr9)
                | ((with_reducible refine (sbytes _ hr8 hr9).mono ?_)
                   rintro e w10 ⟨rfl, rfl⟩
                   rw [beq_self_eq_true]))
              go_ret
              exact ⟨rfl, hT9.below⟩
    · have hf2' : fewB m = false := by simpa using hf2
      clear hf2
      go_enter Try.func5, Try.ntmps5
      go_wp2_with fail
      refine (first_any _).mono ?_
      rintro e w1 ⟨rfl, hb1⟩
      have h1 := (h.below ItRel.kept hb1).more ItRel.kept hb1.size
      have h12 := (h2.below ItRel.kept hb1).more ItRel.kept hb1.size
      go_wp2_with fail
      refine (few_any _ _ _ _ _ h1 hmx).mono ?_
      rintro e w1 ⟨rfl, rfl⟩
      rw [hf]
      go_wp2_with fail
      refine (few_any _ _ _ _ _ h12 hmx2).mono ?_
      rintro e w1 ⟨rfl, rfl⟩
      rw [hf2']
      go_wp2_with fail
      refine (first_any _).mono ?_
      rintro e w2 ⟨rfl, hb2⟩
      go_wp2
      go_ret
      exact ⟨rfl, hb1.trans (hb2.mono hb1.size)⟩
  · have hf' : fewB l = false := by simpa using hf
    clear hf
    go_enter Try.func5, Try.ntmps5
    go_wp2_with fail
    refine (first_any _).mono ?_
    rintro e w1 ⟨rfl, hb1⟩
    have h1 := (h.below ItRel.kept hb1).more ItRel.kept hb1.size
    go_wp2_with fail
    refine (few_any _ _ _ _ _ h1 hmx).mono ?_
    rintro e w1 ⟨rfl, rfl⟩
    rw [hf']
    go_wp2_with fail
    refine (first_any _).mono ?_
    rintro e w2 ⟨rfl, hb2⟩
    go_wp2
    go_ret
    exact ⟨rfl, hb1.trans (hb2.mono hb1.size)⟩
end Go.Proofs.Ytglddefjmnjgdaa
