/- The walk of WireWrites. -/
import Derived.Test.YtglddefjmnjgdaaWc
namespace Go.Proofs.Ytglddefjmnjgdaa
open Go.RowKit Fl

/-- rows of bytes that are told: kept where another block turns, or new ones come -/
structure Row (w : World) (A : Option Addr) (c : Nat) (bs : List UInt8) : Prop where
  reads : Reads w w.heap.size 1 A bs.length (bytesV bs)
theorem Row.below {w w' : World} {A : Option Addr} {c : Nat} {bs : List UInt8} (h : Row w A c bs) (hb : Below w.heap.size w w') : Row w' A c bs := ⟨(h.reads.below hb).more hb.size⟩
theorem Row.drewN {w : World} {A : Option Addr} {c : Nat} {bs : List UInt8} (h : Row w A c bs) (q : Nat) : Row (w.drewN q) A c bs := ⟨h.reads.drewN q⟩

def LoopW (w : World) (l : List It) (g : Nat) (i : Value) (wr : World) : Prop := ∃ (k : Nat) (v : Value), k ≤ l.length ∧ i = .int .i64 (k : Int) ∧ Wr wr g g v (encL (l.take k)) ∧ Below w.heap.size w wr
def LoopX (w : World) (g3 cap m : Nat) (i : Value) (wr : World) : Prop := ∃ (k : Nat) (cur : Array Value), k ≤ m ∧ i = .int .i64 (k : Int) ∧ w.grownBy wr (some g3) ∧ (0 < m → Blk wr g3 5 cur ∧ cur.size = cap)

set_option maxRecDepth 100000 in
set_option maxHeartbeats 8000000 in
theorem writes_walk (A : Option Addr) (n c : Nat) (l : List It) (w : World) (h : Sl ItRel 5 w w.heap.size A n l) (hn : n ≤ maxLen) :
    Calls Try.prog 3 #[.slice A n c] w fun e w' => e = .returned (.bool true) ∧ Below w.heap.size w w' := by
  have hmx := hn
  unfold maxLen at hn
  have hlen : l.length = n := h.1
  have hle : l.length ≤ n := by omega
  have hge : n ≤ l.length := by omega
  have hokl := h.all_ok
  clear hlen
  by_cases hf : fewB l = true
  · go_enter Try.func3, Try.ntmps3
    go_wp2_with fail
    refine (first_any _).mono ?_
    rintro e w1 ⟨rfl, hb1⟩
    have h1 := (h.below ItRel.kept hb1).more ItRel.kept hb1.size
    go_wp2_with fail
    refine (few_any _ _ _ _ _ h1 hmx).mono ?_
    rintro e w1 ⟨rfl, rfl⟩
    rw [hf]
    have HF := Lib.hid hf
    go_wp2_with fail
    refine (wnew _).mono ?_
    rintro e w2 ⟨rfl, hw2⟩
    have hW2 := Wr.new w1
    rw [hw2] at hW2
    have hb2 : Below w.heap.size w w2 := by rw [← hw2]; exact hb1.alloc hb1.size _
    have hg := hb1.size
    generalize w1.heap.size = g at *
    clear hw2 h1 hb1
    go_wp2_with fail
    go_loopw [4] (fun i wr => LoopW w l g i wr) (fun i _ => n - (intOf i).toNat)
    case atStart => exact ⟨0, _, by omega, rfl, hW2, hb2⟩
    case round =>
      obtain ⟨k, v, hk, rfl, hWk, hbk⟩ := hrel
      have hzk := hbk.size
      have hlk := hWk.lt
      have htl := encL_take hokl HF.out k
      by_cases hlt : k < n
      · obtain ⟨ad, a, rfl, hl, hab, hok, c0, c1, c2, c3, c4⟩ := ((h.below ItRel.kept hbk).more ItRel.kept hzk).it hlt
        have HT := Lib.hid (encL_snoc hl)
        have hsm : a.s.size ≤ 20000 := by
          have h1 := (fewB_true HF.out).2
          have h2 := sum_mem_le (List.mem_of_getElem? hl)
          omega
        have hd1 : decide ((k : Int) < (n : Int)) = true := by simp; omega
        clear hl
        go_wp2_with ((with_reducible refine (put_any _ _ _ _ _ _ hWk (by omega) hok (by omega)).mono ?_); rintro e w3 ⟨rfl, v3, hW3, hf3⟩)
        go_roundw
        case rel =>
          refine ⟨k + 1, v3, by omega, by go_num, ?_, hbk.trans ((hf3.below hWk).mono (by omega))⟩
          rw [HT.out]; exact hW3
        case measure => simp [intOf]; omega
      · have he : l.take k = l := List.take_of_length_le (by omega)
        rw [he] at hWk htl
        have hd1 : decide ((k : Int) < (n : Int)) = false := by simp; omega
        clear he
        have hk' := (h.below ItRel.kept hbk).more ItRel.kept hzk
        go_wp2_with fail
        refine (writes_any _ _ _ _ _ hk' hmx HF.out).mono ?_
        rintro e w3 ⟨A2, c2, rfl, _, _, hown2, hb3⟩
        have hW3 := hWk.below hb3
        have hR3 : Row w3 A2 c2 (encL l) := ⟨Reads.of_own hown2⟩
        have hb4 := hbk.trans (hb3.mono hzk)
        clear hWk hbk hk' hown2 hb3
        generalize encL l = E at *
        have hz3 := hb4.size
        go_wp2_with fail
        refine (wbytes _ _ _ _ _ hW3 (by omega)).mono ?_
        rintro e w4 ⟨A3, c3, rfl, hc3, hc3m, hown3, hb5⟩
        have hW4 := hW3.below hb5
        have hR4 := hR3.below hb5
        have hb6 := hb4.trans (hb5.mono hz3)
        have hz5 := hb5.size
        go_wp2_with fail
        refine (sbytes _ (Reads.of_own hown3) hR4.reads).mono ?_
        rintro e w4 ⟨rfl, rfl⟩
        rw [beq_self_eq_true]
        obtain ⟨g3, hg3, hown⟩ : ∃ g3, w3.heap.size ≤ g3 ∧ (0 < E.length → A3 = some ⟨g3, 0, none⟩ ∧ E.length ≤ c3 ∧ ∃ cur, Blk w4 g3 5 cur ∧ cur.size = c3) := by
          rcases hown3.2 with ⟨_, h0⟩ | ⟨g3, cap, cur, hv, hb, hh, h1, h2, h3, h4⟩
          · exact ⟨_, Nat.le_refl _, fun h => by omega⟩
          · injection hv with e1 e2 e3
            subst e3
            exact ⟨g3, hb, fun _ => ⟨e1, h1, cur, hh, by omega⟩⟩
        have hA2 : Reads w3 w3.heap.size 1 A2 E.length (bytesV E) := hR3.reads
        clear hR4 hR3 hown3
        go_wp2_with fail
        go_loopw [7] (fun i wr => LoopX w4 g3 c3 E.length i wr) (fun i _ => E.length - (intOf i).toNat)
        case atStart =>
          by_cases h0 : 0 < E.length
          · obtain ⟨_, _, cur, hb, hcc⟩ := hown h0
            exact ⟨0, cur, by omega, rfl, World.grownBy.refl _ _, fun _ => ⟨hb, hcc⟩⟩
          · exact ⟨0, #[], by omega, rfl, World.grownBy.refl _ _, fun h => absurd h h0⟩
        case round =>
          obtain ⟨j, cur, hj, rfl, hgr, hcur⟩ := hrel
          by_cases hlt2 : j < E.length
          · obtain ⟨hbl, hcc⟩ := hcur (by omega)
            obtain ⟨rfl, hEc, _⟩ := hown (by omega)
            have hjc : j < cur.size := by omega
            have hcell : wr.cell? ⟨g3, j, none⟩ = some cur[j] := by rw [hbl.cell]; exact Array.getElem?_eq_getElem hjc
            have hfz := hbl.frozen j
            have hd2 : decide ((j : Int) < (E.length : Int)) = true := by simp; omega
            have hset := hbl.set_ j (.int .u8 88)
            have hgset := grown_set wr g3 j (.int .u8 88)
            go_wp2
            go_roundw
            case rel =>
              refine ⟨j + 1, _, by omega, by go_num, hgr.trans hgset, fun _ => ⟨hset, ?_⟩⟩
              simpa using hcc
            case measure => simp [intOf]; omega
          · have hd2 : decide ((j : Int) < (E.length : Int)) = false := by simp; omega
            have hW5 := hW4.grown hgr (by have := hW3.lt; omega) (fun e => by have := hW3.own_lt g3 e; omega)
            have hb7 := hb6.grown hgr hb6.size (by intro k hk; injection hk; omega)
            have hA5 : Reads wr w3.heap.size 1 A2 E.length (bytesV E) := (hA2.below hb5).grown hgr hz5 (by intro k hk; injection hk; omega)
            have hz7 := hgr.size
            clear hcur hW4 hW3 hb6 hA2 hb5 hown
            go_wp2_with (first
              | ((with_reducible refine (first_any _).mono ?_)
                 rintro e w5 ⟨rfl, hb8⟩
                 have hW6 := hW5.below hb8
                 have hb9 := hb7.trans (hb8.mono hb7.size)
                 have hz8 := hb8.size
                 have hA6 := (hA5.more (by omega)).below hb8)
              | ((with_reducible refine (wbytes _ _ _ _ _ hW6 (by omega)).mono ?_)
                 rintro e w6 ⟨A6, c6, rfl, _, _, hown6, hb10⟩
                 have hb11 := hb9.trans (hb10.mono hb9.size)
                 have hA7 := (hA6.more (by omega)).below hb10)
              | ((with_reducible refine (sbytes _ (Reads.of_own hown6) hA7).mono ?_)
                 rintro e w7 ⟨rfl, rfl⟩
                 rw [beq_self_eq_true]))
            go_ret
            exact ⟨rfl, hb11⟩
  · have hf' : fewB l = false := by simpa using hf
    clear hf
    go_enter Try.func3, Try.ntmps3
    go_wp2_with fail
    refine (first_any _).mono ?_
    rintro e w1 ⟨rfl, hb1⟩
    have h1 := (h.below ItRel.kept hb1).more ItRel.kept hb1.size
    go_wp2_with fail
    refine (few_any _ _ _ _ _ h1 hmx).mono ?_
    rintro e w1 ⟨rfl, rfl⟩
    rw [hf']
    go_wp2_with fail
    refine (first_any _).mono ?_
    rintro e w2 ⟨rfl, hb2⟩
    go_wp2
    go_ret
    exact ⟨rfl, hb1.trans (hb2.mono hb1.size)⟩
end Go.Proofs.Ytglddefjmnjgdaa
