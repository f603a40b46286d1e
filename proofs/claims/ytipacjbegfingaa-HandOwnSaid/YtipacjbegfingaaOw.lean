/- The walk of HandOwn, and that two halves merge back. -/
import Derived.Test.YtipacjbegfingaaFk
namespace Go.Proofs.Ytipacjbegfingaa
open Go.RowKit Fl
attribute [local go_sem] run_store_float

theorem Sl.grow {α : Type} {R : Rel α} {size n : Nat} {w w' : World} {A : Option Addr} {l : List α} (hR : R.Kept) (h : Sl R size w w.heap.size A n l) (hb : Below w.heap.size w w') : Sl R size w' w'.heap.size A n l :=
  (h.below hR hb).more hR hb.size
theorem HdRel.grow {α : Type} {R : Rel α} {size : Nat} {w w' : World} {v : Value} {l : List α} (hR : R.Kept) (h : HdRel R size w w.heap.size v l) (hb : Below w.heap.size w w') : HdRel R size w' w'.heap.size v l :=
  (h.below hR hb).more hR hb.size
/-- element k alone -/
theorem Sl.one {α : Type} {R : Rel α} {size n B : Nat} {w : World} {ad : Addr} {l : List α} (h : Sl R size w B (some ad) n l) {k : Nat} {a : α} (ha : l[k]? = some a) : Sl R size w B (some (ad.add (k * size))) 1 [a] := by
  refine ⟨rfl, fun i b hi => ?_⟩
  obtain ⟨ad', cs, e, hb, hl, hc, hr⟩ := h.2 k a ha
  injection e with e
  subst e
  have hi1 : i < 1 := by have := (List.getElem?_eq_some_iff.1 hi).1; simpa using this
  obtain rfl : i = 0 := by omega
  injection hi with hi
  subst hi
  exact ⟨_, cs, rfl, by rw [block_of_add]; exact hb, hl, fun j u hj => by rw [add_of_add, Nat.zero_mul, Nat.zero_add]; exact hc j u hj, hr⟩

theorem halveL_len (l : List Wt) (p : Nat) : (halveL l p).length ≤ l.length := List.length_filter_le _ _
theorem halveR_len (l : List Wt) (p : Nat) : (halveR l p).length ≤ l.length := List.length_filter_le _ _
theorem halveLL (l : List Wt) (p : Nat) : halveL (halveL l p) p = halveL l p := by unfold halveL; rw [List.filter_filter]; simp
theorem halveRR (l : List Wt) (p : Nat) : halveR (halveR l p) p = halveR l p := by unfold halveR; rw [List.filter_filter]; simp
theorem halveRL (l : List Wt) (p : Nat) : halveR (halveL l p) p = [] := by unfold halveL halveR; rw [List.filter_filter]; simp
theorem halveLR (l : List Wt) (p : Nat) : halveL (halveR l p) p = [] := by unfold halveL halveR; rw [List.filter_filter]; simp
/-- element n of the list is next in its half, and not next in the other one -/
theorem halve_next {l : List Wt} {p n : Nat} {a : Wt} (ha : l[n]? = some a) :
    (belowB a.key p = true → (halveL l p)[(halveL (l.take n) p).length]? = some a) ∧
    (belowB a.key p = false → (halveR l p)[(halveR (l.take n) p).length]? = some a ∧ ∀ b, (halveL l p)[(halveL (l.take n) p).length]? = some b → b.same a = false) := by
  have hs := List.getElem?_eq_some_iff.1 ha
  have hl : l = l.take n ++ a :: l.drop (n + 1) := by
    rw [← hs.2, ← List.drop_eq_getElem_cons hs.1, List.take_append_drop]
  refine ⟨fun h => ?_, fun h => ⟨?_, fun b hb => ?_⟩⟩
  · have e : halveL l p = halveL (l.take n) p ++ (a :: halveL (l.drop (n + 1)) p) := by
      conv => lhs; rw [hl]
      unfold halveL; rw [List.filter_append, List.filter_cons]; simp [h]
    rw [e, List.getElem?_append_right (Nat.le_refl _)]; simp
  · have e : halveR l p = halveR (l.take n) p ++ (a :: halveR (l.drop (n + 1)) p) := by
      conv => lhs; rw [hl]
      unfold halveR; rw [List.filter_append, List.filter_cons]; simp [h]
    rw [e, List.getElem?_append_right (Nat.le_refl _)]; simp
  · have hm : b ∈ halveL l p := List.mem_of_getElem? hb
    have hbb : belowB b.key p = true := by unfold halveL at hm; exact (List.mem_filter.1 hm).2
    cases hsm : b.same a
    · rfl
    · rw [Wt.same_eq hsm, h] at hbb; cases hbb

def OwnRel (l : List Wt) (p : Nat) (w : World) (i k n : Value) (wr : World) : Prop :=
  ∃ m : Nat, m ≤ l.length ∧ n = .int .i64 (m : Int) ∧ i = .int .i64 ((halveL (l.take m) p).length : Int) ∧ k = .int .i64 ((halveR (l.take m) p).length : Int) ∧ Below w.heap.size w wr

set_option maxRecDepth 100000 in
set_option maxHeartbeats 8000000 in
theorem own_few (A : Option Addr) (n c : Nat) (l : List Wt) (p : Nat) (w : World) (h : Sl WtRel 4 w w.heap.size A n l) (hn : n ≤ maxLen) (hnc : n ≤ c) (hwt : weighW 20000 0 l ≤ 20000) :
    Calls Try.prog 6 #[.slice A n c, .float .f64 p] w fun e w' => e = .returned (.bool true) ∧ Below w.heap.size w w' := by
  have hle := weighW_le l 20000 0 (by omega) (by omega) hwt
  have hn2 : n ≤ 20000 := by
    have : (l.length : Int) ≤ (l.map fun a => 1 + (a.key.size : Int) + (a.v.t.size : Int)).sum := by
      clear h hle hwt
      induction l with
      | nil => simp
      | cons b l ih => simp only [List.map_cons, List.sum_cons, List.length_cons]; omega
    have := h.1
    omega
  clear hle
  have hokl : ∀ a ∈ l, Wt.ok a := fun a ha => by
    obtain ⟨i, hi⟩ := List.getElem?_of_mem ha
    obtain ⟨ad, cs, e, hb, hl, hc, hr⟩ := h.2 i a hi
    exact hr.2
  have hokL : ∀ a ∈ halveL l p, Wt.ok a := fun a ha => hokl a (List.mem_filter.1 ha).1
  have hokR : ∀ a ∈ halveR l p, Wt.ok a := fun a ha => hokl a (List.mem_filter.1 ha).1
  have hd0 : decide ((20000 : Int) < weighW 20000 0 l) = false := by simp; omega
  have hlL := halveL_len l p
  have hlR := halveR_len l p
  have hll := h.1
  generalize hwe : weighW 20000 0 l = we at *
  go_enter Try.func6, Try.ntmps6
  go_wp2_with (first
    | ((with_reducible refine (first_any _).mono ?_); rintro e w1 ⟨rfl, hb1⟩
       have h1 := h.grow WtRel.kept hb1)
    | (go_at_call 21
       refine (weigh_any _ _ _ _ _ _ h1 hn (by omega) (by omega)).mono ?_
       rintro e w2 ⟨rfl, q, rfl⟩
       rw [hwe]
       have hb2 : Below w1.heap.size w1 (w1.drewN q) := ⟨rfl, rfl, rfl, Nat.le_refl _, fun _ _ => rfl⟩
       have h2 := h1.grow WtRel.kept hb2)
    | fail)
  refine (halve_any A n c l p _ h2 (by omega)).mono ?_
  rintro e w3 ⟨va, vb, rfl, oa, ob, -, hb3⟩
  have h3 := h2.grow WtRel.kept hb3
  obtain ⟨Aa, na, ca, rfl, hna, hca, ha3⟩ := oa.sl (by omega) wt_len hokL
  obtain ⟨Ab, nb, cb, rfl, hnb, hcb, hx3⟩ := ob.sl (by omega) wt_len hokR
  have hla := ha3.1
  have hlb := hx3.1
  go_wp2_with fail
  refine (halve_any Aa na ca (halveL l p) p _ ha3 (by omega)).mono ?_
  rintro e w4 ⟨vc, vd, rfl, oc, od, -, hb4⟩
  rw [halveLL] at oc
  rw [halveRL] at od
  have h4 := h3.grow WtRel.kept hb4
  have ha4 := ha3.grow WtRel.kept hb4
  have hx4 := hx3.grow WtRel.kept hb4
  obtain ⟨Ac, nc, cc, rfl, hnc2, hcc, hc4⟩ := oc.sl (by omega) wt_len hokL
  obtain ⟨Ad, nd, cd, rfl, hnd, hcd, hd4⟩ := od.sl (ok := Wt.ok) (by omega) wt_len (by simp)
  obtain rfl : nd = 0 := hd4.1.symm
  go_wp2_with fail
  refine (halve_any Ab nb cb (halveR l p) p _ hx4 (by omega)).mono ?_
  rintro e w5 ⟨ve, vf, rfl, oe, of, -, hb5⟩
  rw [halveLR] at oe
  rw [halveRR] at of
  have h5 := h4.grow WtRel.kept hb5
  have ha5 := ha4.grow WtRel.kept hb5
  have hx5 := hx4.grow WtRel.kept hb5
  have hc5 := hc4.grow WtRel.kept hb5
  obtain ⟨Ae, ne, ce, rfl, hne, hce, he5⟩ := oe.sl (ok := Wt.ok) (by omega) wt_len (by simp)
  obtain ⟨Af, nf, cf, rfl, hnf, hcf, hf5⟩ := of.sl (by omega) wt_len hokR
  obtain rfl : ne = 0 := he5.1.symm
  obtain rfl : nc = na := by rw [← hc5.1, hla]
  obtain rfl : nf = nb := by rw [← hf5.1, hlb]
  have hw5 : Below w.heap.size w w5 := ((((hb1.trans (hb2.mono hb1.size)).trans (hb3.mono hb1.size)).trans (hb4.mono (Nat.le_trans hb1.size hb3.size))).trans (hb5.mono (Nat.le_trans hb1.size (Nat.le_trans hb3.size hb4.size))))
  clear hb1 hb2 hb3 hb4 hb5 h1 h2 h3 h4 oa ob oc od oe of ha3 ha4 hx3 hx4 hc4 hd4 he5 hwe
  go_wp2_with fail
  go_loopw [11, 12, 13] (fun i k m wr => OwnRel l p w5 i k m wr) (fun _ _ m _ => n - (intOf m).toNat)
  case atStart => exact ⟨0, by omega, rfl, rfl, rfl, Below.refl _ _⟩
  case round =>
    obtain ⟨m, hm, rfl, rfl, rfl, hb⟩ := hrel
    have hr := h5.grow WtRel.kept hb
    have har := ha5.grow WtRel.kept hb
    have hxr := hx5.grow WtRel.kept hb
    by_cases hlt : m < n
    · have hm0 : m < l.length := by omega
      have hget : l[m]? = some l[m] := List.getElem?_eq_getElem hm0
      generalize l[m] = a at *
      have hsn := halve_snoc p hget
      have hnx := halve_next (p := p) hget
      obtain ⟨ad, -, -, rfl, -⟩ := hr.at_ hlt
      have hel := hr.one hget
      have hd1 : decide ((m : Int) < (n : Int)) = true := by simp; omega
      have hm1 : (0 : Int) ≤ (m : Int) := by omega
      have hm2 : (m : Int) ≤ (m : Int) + 1 := by omega
      have hm3 : (m : Int) + 1 ≤ (c : Int) := by omega
      have hcm2 : ¬ c = m := by omega
      have hm4 : IntKind.i64.wrap ((m : Int) + 1) = (m : Int) + 1 := by rw [IntKind.wrap_i64]; omega
      cases hbel : belowB a.key p
      · have hnx2 := hnx.2 hbel
        have HS := Lib.hid (hsn.2 hbel)
        clear hsn hnx hget hbel
        generalize hix : (halveL (l.take m) p).length = i at *
        generalize hkx : (halveR (l.take m) p).length = k at *
        by_cases hilt : i < nc
        · obtain ⟨aa, -, b, rfl, hb0, -⟩ := har.at_ hilt
          have hea := har.one hb0
          have hbs := hnx2.2 b hb0
          have hd2 : decide ((i : Int) < (nc : Int)) = true := by simp; omega
          have hi1 : (0 : Int) ≤ (i : Int) := by omega
          have hi2 : (i : Int) ≤ (i : Int) + 1 := by omega
          have hi3 : (i : Int) + 1 ≤ (ca : Int) := by omega
          have hci : ¬ ca = i := by omega
          have hi4 : IntKind.i64.wrap ((i : Int) + 1) = (i : Int) + 1 := by rw [IntKind.wrap_i64]; omega
          clear hb0
          have hW := wts_any (some (aa.add (i * 4))) (some (ad.add (m * 4))) 1 1 (ca - i) (c - m) [b] [a] wr.drew hea hel (by unfold maxLen; omega) (by unfold maxLen; omega)
          rw [show sameL Wt.same [b] [a] = false from by show (Wt.same b a && _) = false; rw [hbs]; rfl] at hW
          clear hbs
          have HN := Lib.hid hnx2
          clear hnx2
          go_wp2
          go_region_held3 (fun _ => True) (trivial) (first | ((with_reducible refine hW.mono ?_); rintro e W1 ⟨rfl, hb6⟩))
          clear hW
          have HB : Below wr.heap.size wr W1 := (Below.refl _ _).drew.trans hb6
          have hnx2 := HN.out
          clear HN
          have hkb := hnx2.1
          have hkl := (List.getElem?_eq_some_iff.1 hkb).1
          have hklt : k < nf := by omega
          obtain ⟨ab, -, -, rfl, -⟩ := (hxr.grow WtRel.kept HB).at_ hklt
          have heb := (hxr.grow WtRel.kept HB).one hkb
          have hel2 := hel.grow WtRel.kept HB
          have hd3 : decide ((k : Int) < (nf : Int)) = true := by simp; omega
          have hk1 : (0 : Int) ≤ (k : Int) := by omega
          have hk2 : (k : Int) ≤ (k : Int) + 1 := by omega
          have hk3 : (k : Int) + 1 ≤ (cb : Int) := by omega
          have hck : ¬ cb = k := by omega
          have hk4 : IntKind.i64.wrap ((k : Int) + 1) = (k : Int) + 1 := by rw [IntKind.wrap_i64]; omega
          clear hkb hnx2
          go_wp2
          have hV := wts_any (some (ab.add (k * 4))) (some (ad.add (m * 4))) 1 1 (cb - k) (c - m) [a] [a] W1.drew heb hel2 (by unfold maxLen; omega) (by unfold maxLen; omega)
          rw [show sameL Wt.same [a] [a] = true from sameL_self Wt.same_self [a]] at hV
          go_region_held3 (fun _ => True) (trivial) (first | ((with_reducible refine hV.mono ?_); rintro e w8 ⟨rfl, hb8⟩))
          have hb9 : Below w5.heap.size w5 w8 := (hb.trans (HB.mono hb.size)).drew.trans (hb8.mono (Nat.le_trans hb.size HB.size))
          go_wp2
          go_roundw
          case rel =>
            refine ⟨m + 1, by omega, by go_num, ?_, ?_, hb9⟩
            · rw [HS.out.1, hix]
            · rw [HS.out.2, List.length_append, hkx]; go_num
          case measure => simp [intOf]; omega
        · have hd2 : decide ((i : Int) < (nc : Int)) = false := by simp; omega
          have HN := Lib.hid hnx2
          clear hnx2
          go_wp2
          go_quiet (fail)
          have HB : Below wr.heap.size wr (wr.drewN nq) := ⟨rfl, rfl, rfl, Nat.le_refl _, fun _ _ => rfl⟩
          generalize wr.drewN nq = W1 at *
          have hnx2 := HN.out
          clear HN
          have hkb := hnx2.1
          have hkl := (List.getElem?_eq_some_iff.1 hkb).1
          have hklt : k < nf := by omega
          obtain ⟨ab, -, -, rfl, -⟩ := (hxr.grow WtRel.kept HB).at_ hklt
          have heb := (hxr.grow WtRel.kept HB).one hkb
          have hel2 := hel.grow WtRel.kept HB
          have hd3 : decide ((k : Int) < (nf : Int)) = true := by simp; omega
          have hk1 : (0 : Int) ≤ (k : Int) := by omega
          have hk2 : (k : Int) ≤ (k : Int) + 1 := by omega
          have hk3 : (k : Int) + 1 ≤ (cb : Int) := by omega
          have hck : ¬ cb = k := by omega
          have hk4 : IntKind.i64.wrap ((k : Int) + 1) = (k : Int) + 1 := by rw [IntKind.wrap_i64]; omega
          clear hkb hnx2
          go_wp2
          have hV := wts_any (some (ab.add (k * 4))) (some (ad.add (m * 4))) 1 1 (cb - k) (c - m) [a] [a] W1.drew heb hel2 (by unfold maxLen; omega) (by unfold maxLen; omega)
          rw [show sameL Wt.same [a] [a] = true from sameL_self Wt.same_self [a]] at hV
          go_region_held3 (fun _ => True) (trivial) (first | ((with_reducible refine hV.mono ?_); rintro e w8 ⟨rfl, hb8⟩))
          have hb9 : Below w5.heap.size w5 w8 := (hb.trans (HB.mono hb.size)).drew.trans (hb8.mono (Nat.le_trans hb.size HB.size))
          go_wp2
          go_roundw
          case rel =>
            refine ⟨m + 1, by omega, by go_num, ?_, ?_, hb9⟩
            · rw [HS.out.1, hix]
            · rw [HS.out.2, List.length_append, hkx]; go_num
          case measure => simp [intOf]; omega
      · have hn1 := hnx.1 hbel
        have hil := (List.getElem?_eq_some_iff.1 hn1).1
        have HS := Lib.hid (hsn.1 hbel)
        clear hsn hnx
        generalize hix : (halveL (l.take m) p).length = i at *
        generalize hkx : (halveR (l.take m) p).length = k at *
        have hilt : i < nc := by omega
        obtain ⟨aa, -, -, rfl, -⟩ := har.at_ hilt
        have hea := har.one hn1
        have hd2 : decide ((i : Int) < (nc : Int)) = true := by simp; omega
        have hi1 : (0 : Int) ≤ (i : Int) := by omega
        have hi2 : (i : Int) ≤ (i : Int) + 1 := by omega
        have hi3 : (i : Int) + 1 ≤ (ca : Int) := by omega
        have hci : ¬ ca = i := by omega
        have hi4 : IntKind.i64.wrap ((i : Int) + 1) = (i : Int) + 1 := by rw [IntKind.wrap_i64]; omega
        clear hget hn1 hbel hlL hlR hll hla hlb
        go_wp2
        have hW := wts_any (some (aa.add (i * 4))) (some (ad.add (m * 4))) 1 1 (ca - i) (c - m) [a] [a] wr.drew hea hel (by unfold maxLen; omega) (by unfold maxLen; omega)
        rw [show sameL Wt.same [a] [a] = true from sameL_self Wt.same_self [a]] at hW
        go_region_held3 (fun _ => True) (trivial) (first | ((with_reducible refine hW.mono ?_); rintro e w6 ⟨rfl, hb6⟩))
        have hb7 : Below w5.heap.size w5 w6 := hb.drew.trans (hb6.mono hb.size)
        go_wp2
        go_roundw
        case rel =>
          refine ⟨m + 1, by omega, by go_num, ?_, ?_, hb7⟩
          · rw [HS.out.1, List.length_append, hix]; go_num
          · rw [HS.out.2, hkx]
        case measure => simp [intOf]; omega
    · have hd1 : decide ((m : Int) < (n : Int)) = false := by simp; omega
      have he : l.take m = l := List.take_of_length_le (by omega)
      rw [he] at *
      clear he
      rw [hla, hlb]
      have hrh := hr
      clear hlL hlR
      have hcr := hc5.grow WtRel.kept hb
      have hfr := hf5.grow WtRel.kept hb
      have hwr := hw5.trans (hb.mono hw5.size)
      have hxl : ((halveL l p).length : Int) = (nc : Int) := by omega
      go_wp2_with fail
      refine (rhalve_any A n c l p _ hr (by omega)).mono ?_
      rintro e w6 ⟨vx, vy, rfl, ox, oy, -, hb6⟩
      obtain ⟨Ax, cx, rfl, -⟩ := ox.form
      obtain ⟨Ay, cy, rfl, -⟩ := oy.form
      have hw6 := hwr.trans (hb6.mono hwr.size)
      have har6 := har.grow WtRel.kept hb6
      have hxr6 := hxr.grow WtRel.kept hb6
      have hcr6 := hcr.grow WtRel.kept hb6
      have hfr6 := hfr.grow WtRel.kept hb6
      clear ox oy
      generalize (halveL l p).length = xl at *
      generalize (halveR l p).length = yl at *
      have hq0 : ((nc : Int) == (nc : Int)) = true := by simp
      have hq1 : ((nf : Int) == (nf : Int)) = true := by simp
      have hq2 : ((xl : Int) == (nc : Int)) = true := by simp; omega
      go_wp2_with (first
        | ((with_reducible refine (first_any _).mono ?_); rintro e w7 ⟨rfl, hb7⟩
           have hw7 := hw6.trans (hb7.mono hw6.size)
           have har7 := har6.grow WtRel.kept hb7
           have hxr7 := hxr6.grow WtRel.kept hb7
           have hcr7 := hcr6.grow WtRel.kept hb7
           have hfr7 := hfr6.grow WtRel.kept hb7)
        | (go_at_call 23; fail))
      have hL := wts_any Ac Aa nc nc cc ca (halveL l p) (halveL l p) w7 hcr7 har7 (by omega) (by omega)
      rw [sameL_self Wt.same_self] at hL
      refine hL.mono ?_
      rintro e w8 ⟨rfl, hb8⟩
      have hw8 := hw7.trans (hb8.mono hw7.size)
      have hR := wts_any Af Ab nf nf cf cb (halveR l p) (halveR l p) w8 (hfr7.grow WtRel.kept hb8) (hxr7.grow WtRel.kept hb8) (by omega) (by omega)
      rw [sameL_self Wt.same_self] at hR
      clear hL
      go_wp2_with ((with_reducible refine hR.mono ?_); rintro e w9 ⟨rfl, hb9⟩)
      go_ret
      exact ⟨rfl, hw8.trans (hb9.mono hw8.size)⟩

set_option maxRecDepth 100000 in
set_option maxHeartbeats 2000000 in
theorem own_walk (A : Option Addr) (n c : Nat) (l : List Wt) (p : Nat) (w : World) (h : Sl WtRel 4 w w.heap.size A n l) (hn : n ≤ maxLen) (hnc : n ≤ c) :
    Calls Try.prog 6 #[.slice A n c, .float .f64 p] w fun e w' => e = .returned (.bool true) ∧ Below w.heap.size w w' := by
  by_cases hwt : weighW 20000 0 l ≤ 20000
  · exact own_few A n c l p w h hn hnc hwt
  have hd0 : decide ((20000 : Int) < weighW 20000 0 l) = true := by simp; omega
  clear hwt
  generalize hwe : weighW 20000 0 l = we at *
  go_enter Try.func6, Try.ntmps6
  go_wp2_with (first
    | ((with_reducible refine (first_any _).mono ?_); rintro e w1 ⟨rfl, hb1⟩
       have h1 := h.grow WtRel.kept hb1)
    | (go_at_call 21
       refine (weigh_any _ _ _ _ _ _ h1 hn (by omega) (by omega)).mono ?_
       rintro e w2 ⟨rfl, q, rfl⟩
       rw [hwe])
    | ((with_reducible refine (first_any _).mono ?_); rintro e w3 ⟨rfl, hb3⟩))
  go_ret
  have hbq : Below w.heap.size w (w1.drewN q) := hb1.trans ⟨rfl, rfl, rfl, Nat.le_refl _, fun _ _ => rfl⟩
  exact ⟨rfl, hbq.trans (hb3.mono hb1.size)⟩
end Go.Proofs.Ytipacjbegfingaa
