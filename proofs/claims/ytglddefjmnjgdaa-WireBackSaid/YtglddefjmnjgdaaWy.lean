/- The walk of reads: are the items what is read? -/
import Derived.Test.YtglddefjmnjgdaaBk
import Derived.Test.YtglddefjmnjgdaaWv
namespace Go.Proofs.Ytglddefjmnjgdaa
open Go.RowKit Fl

theorem rbits' (a b : Nat) (w : World) : Calls Try.prog 38 #[.float .f64 a, .float .f64 b] w fun e w' => e = .returned (.bool (a == b)) ∧ w = w' :=
  (rbits a b w).mono fun e w' ⟨he, hw⟩ => ⟨he.trans (ret_bool (by rw [Bool.eq_iff_iff]; simp; omega)), hw⟩

def LoopB (w : World) (l : List It) (g : Nat) (A : Option Addr) (n c : Nat) (b : List UInt8) (R : Bool × RS) (i : Value) (wr : World) : Prop :=
  ∃ (k : Nat) (s : RS), k ≤ l.length ∧ i = .int .i64 (k : Int) ∧ Rd 73 wr g A n c b s ∧ readsR b s (l.drop k) = R ∧ w.grownBy wr (some g)

def ReadsPost (w : World) (g : Nat) (A : Option Addr) (n c : Nat) (b : List UInt8) (R : Bool × RS) : Ending → World → Prop := fun e w' =>
  e = .returned (.bool R.1) ∧ Rd 73 w' g A n c b R.2 ∧ w.grownBy w' (some g)

theorem readsR_cons {b : List UInt8} {s : RS} {l : List It} {k : Nat} {a : It} (h : l[k]? = some a) : readsR b s (l.drop k) = if (rdIt b s a).1 = true then readsR b (rdIt b s a).2 (l.drop (k + 1)) else (false, (rdIt b s a).2) := by
  have hlt := (List.getElem?_eq_some_iff.1 h).1
  rw [List.drop_eq_getElem_cons hlt, (List.getElem?_eq_some_iff.1 h).2]; rfl

set_option maxRecDepth 100000 in
set_option maxHeartbeats 8000000 in
theorem reads_any (g : Nat) (A : Option Addr) (n c : Nat) (b : List UInt8) (s : RS) (A2 : Option Addr) (n2 c2 : Nat) (l : List It) (w : World) (B : Nat) (hR : Rd 73 w g A n c b s) (h2 : Sl ItRel 5 w B A2 n2 l) (hn2 : n2 ≤ maxLen) (hB : B ≤ g) :
    Calls Try.prog 31 #[.pointer (some ⟨g, 0, none⟩), .slice A2 n2 c2] w (ReadsPost w g A n c b (readsR b s l)) := by
  unfold maxLen at hn2
  have hlen2 : l.length = n2 := h2.1
  have hle2 : l.length ≤ n2 := by omega
  have hge2 : n2 ≤ l.length := by omega
  have hgl := hR.blk.lt
  clear hlen2
  generalize hRR : readsR b s l = R at *
  go_enter Try.func31, Try.ntmps31
  go_wp2
  go_loopw [5] (fun i wr => LoopB w l g A n c b R i wr) (fun i _ => n2 - (intOf i).toNat)
  case atStart => exact ⟨0, s, by omega, rfl, hR, by rw [List.drop_zero]; exact hRR, World.grownBy.refl _ _⟩
  case round =>
    obtain ⟨k, s, hk, rfl, hRk, hq, hgr⟩ := hrel
    have hzk := hgr.size
    clear hRR hR
    by_cases hlt : k < n2
    · have hs2 : Sl ItRel 5 wr B A2 n2 l := h2.keep ItRel.kept fun p hp => World.cell?_of_block (hgr.block _ (by omega) (by intro e; injection e; omega))
      obtain ⟨ad, a, rfl, hl, hab, hok, c0, c1, c2', c3, c4⟩ := hs2.it hlt
      have hd1 : decide ((k : Int) < (n2 : Int)) = true := by simp; omega
      have hk0 : (0 : Int) ≤ (k : Int) := by omega
      have hk1 : (k : Int) < (n2 : Int) := by omega
      rw [readsR_cons hl] at hq
      have HQ := Lib.hid hq
      clear hl hq
      have hne : (ad.add (k * 5)).block ≠ g := by omega
      have hkeep : ∀ w' : World, wr.drew.grownBy w' (some g) → ∀ o, w'.cell? ⟨(ad.add (k * 5)).block, o, none⟩ = wr.cell? ⟨(ad.add (k * 5)).block, o, none⟩ :=
        fun w' hg o => World.cell?_of_block (w := wr) (hg.block _ (by show (ad.add (k * 5)).block < wr.heap.size; omega) (by show some (ad.add (k * 5)).block ≠ _; intro e; injection e; omega))
      have hcase : a.k = 0 ∨ (a.k ≠ 0 ∧ a.k = 1) ∨ (a.k ≠ 0 ∧ a.k ≠ 1 ∧ a.k = 2) ∨ (a.k ≠ 0 ∧ a.k ≠ 1 ∧ a.k ≠ 2 ∧ a.k = 3) ∨ (a.k ≠ 0 ∧ a.k ≠ 1 ∧ a.k ≠ 2 ∧ a.k ≠ 3) := by omega
      have hRd : Rd 73 wr.drew g A n c b s := hRk.drewN 1
      rcases hcase with k0 | ⟨k0, k1⟩ | ⟨k0, k1, k2⟩ | ⟨k0, k1, k2, k3⟩ | ⟨k0, k1, k2, k3⟩
      · have b0 : (a.k == 0) = true := by simp [k0]
        have hr : rdIt b s a = ((rInt b s).1 == a.n, (rInt b s).2) := by unfold rdIt; rw [if_pos k0]
        have hc := wRInt g A n c b s wr.drew hRd
        rw [hr] at HQ
        clear hr k0
        generalize (rInt b s).1 = v at *
        generalize (rInt b s).2 = s' at *
        go_wp2
        go_region_held3 (fun w' => w'.cell? ⟨(ad.add (k * 5)).block, (ad.add (k * 5)).off + 1, none⟩ = some (.int .i64 a.n))
          (first | exact c1 | exact (hkeep _ hg3 _).trans c1)
          (first
          | ((with_reducible refine hc.mono ?_); rintro e w3 ⟨rfl, hr3, hg3⟩))
        have hgr3 : w.grownBy w3 (some g) := hgr.trans ((grown_drewN (World.grownBy.refl _ _) 1).trans hg3)
        cases hv : (v == a.n)
        · have HF : RowKit.Hid (R = (false, s')) := by have := HQ.out; simp only [hv] at this; exact this.symm
          go_wp2
          go_ret
          rw [HF.out]
          exact ⟨rfl, hr3, hgr3⟩
        · have HT : RowKit.Hid (readsR b s' (l.drop (k + 1)) = R) := by have := HQ.out; simp only [hv] at this; exact this
          go_wp2
          go_roundw
          case rel => exact ⟨k + 1, s', by omega, by go_num, hr3, HT.out, hgr3⟩
          case measure => simp [intOf]; omega
      · have b0 : (a.k == 0) = false := by simp [k0]
        have b1 : (a.k == 1) = true := by simp [k1]
        have hr : rdIt b s a = ((rFlag b s).1 == a.b, (rFlag b s).2) := by unfold rdIt; rw [if_neg k0, if_pos k1]
        have hc := wRFlag g A n c b s wr.drew hRd
        rw [hr] at HQ
        clear hr k0 k1
        generalize (rFlag b s).1 = v at *
        generalize (rFlag b s).2 = s' at *
        go_wp2
        go_region_held3 (fun w' => w'.cell? ⟨(ad.add (k * 5)).block, (ad.add (k * 5)).off + 2, none⟩ = some (.bool a.b))
          (first | exact c2' | exact (hkeep _ hg3 _).trans c2')
          (first
          | ((with_reducible refine hc.mono ?_); rintro e w3 ⟨rfl, hr3, hg3⟩))
        have hgr3 : w.grownBy w3 (some g) := hgr.trans ((grown_drewN (World.grownBy.refl _ _) 1).trans hg3)
        cases hv : (v == a.b)
        · have HF : RowKit.Hid (R = (false, s')) := by have := HQ.out; simp only [hv] at this; exact this.symm
          go_wp2
          go_ret
          rw [HF.out]
          exact ⟨rfl, hr3, hgr3⟩
        · have HT : RowKit.Hid (readsR b s' (l.drop (k + 1)) = R) := by have := HQ.out; simp only [hv] at this; exact this
          go_wp2
          go_roundw
          case rel => exact ⟨k + 1, s', by omega, by go_num, hr3, HT.out, hgr3⟩
          case measure => simp [intOf]; omega
      · have b0 : (a.k == 0) = false := by simp [k0]
        have b1 : (a.k == 1) = false := by simp [k1]
        have b2 : (a.k == 2) = true := by simp [k2]
        have hr : rdIt b s a = ((rFloat b s).1 == canonB a.x, (rFloat b s).2) := by unfold rdIt; rw [if_neg k0, if_neg k1, if_pos k2]
        have hc := wRFloat g A n c b s wr.drew hRd
        rw [hr] at HQ
        clear hr k0 k1 k2
        generalize (rFloat b s).1 = v at *
        generalize (rFloat b s).2 = s' at *
        go_wp2
        go_region_held3 (fun w' => w'.cell? ⟨(ad.add (k * 5)).block, (ad.add (k * 5)).off + 3, none⟩ = some (.float .f64 a.x))
          (first | exact c3 | exact (hkeep _ hg3 _).trans c3)
          (first
          | ((with_reducible refine hc.mono ?_); rintro e w3 ⟨rfl, hr3, hg3⟩)
          | ((with_reducible refine (xcanon _ _).mono ?_); rintro e w4 ⟨rfl, rfl⟩)
          | ((with_reducible refine (rbits' _ _ _).mono ?_); rintro e w4 ⟨rfl, rfl⟩))
        have hgr3 : w.grownBy w3 (some g) := hgr.trans ((grown_drewN (World.grownBy.refl _ _) 1).trans hg3)
        cases hv : (v == canonB a.x)
        · have HF : RowKit.Hid (R = (false, s')) := by have := HQ.out; simp only [hv] at this; exact this.symm
          go_wp2
          go_ret
          rw [HF.out]
          exact ⟨rfl, hr3, hgr3⟩
        · have HT : RowKit.Hid (readsR b s' (l.drop (k + 1)) = R) := by have := HQ.out; simp only [hv] at this; exact this
          go_wp2
          go_roundw
          case rel => exact ⟨k + 1, s', by omega, by go_num, hr3, HT.out, hgr3⟩
          case measure => simp [intOf]; omega
      · have b0 : (a.k == 0) = false := by simp [k0]
        have b1 : (a.k == 1) = false := by simp [k1]
        have b2 : (a.k == 2) = false := by simp [k2]
        have b3 : (a.k == 3) = true := by simp [k3]
        have hr : rdIt b s a = ((rText b s 20000).1 == a.s.data.toList, (rText b s 20000).2) := by unfold rdIt; rw [if_neg k0, if_neg k1, if_neg k2, if_pos k3]
        have hc := wRText g A n c b s 20000 wr.drew hRd
        rw [hr] at HQ
        clear hr k0 k1 k2 k3
        generalize (rText b s 20000).1 = v at *
        generalize (rText b s 20000).2 = s' at *
        go_wp2
        go_region_held3 (fun w' => w'.cell? ⟨(ad.add (k * 5)).block, (ad.add (k * 5)).off + 4, none⟩ = some (.string a.s))
          (first | exact c4 | exact (hkeep _ hg3 _).trans c4)
          (first
          | ((with_reducible refine hc.mono ?_); rintro e w3 ⟨rfl, hr3, hg3⟩))
        have hgr3 : w.grownBy w3 (some g) := hgr.trans ((grown_drewN (World.grownBy.refl _ _) 1).trans hg3)
        have hts : a.s.toList = a.s.data.toList := ByteArray.toList_eq a.s
        rw [← hts] at HQ
        clear hts
        cases hv : (v == a.s.toList)
        · have HF : RowKit.Hid (R = (false, s')) := by have := HQ.out; simp only [hv] at this; exact this.symm
          go_wp2
          go_ret
          rw [HF.out]
          exact ⟨rfl, hr3, hgr3⟩
        · have HT : RowKit.Hid (readsR b s' (l.drop (k + 1)) = R) := by have := HQ.out; simp only [hv] at this; exact this
          go_wp2
          go_roundw
          case rel => exact ⟨k + 1, s', by omega, by go_num, hr3, HT.out, hgr3⟩
          case measure => simp [intOf]; omega
      · have b0 : (a.k == 0) = false := by simp [k0]
        have b1 : (a.k == 1) = false := by simp [k1]
        have b2 : (a.k == 2) = false := by simp [k2]
        have b3 : (a.k == 3) = false := by simp [k3]
        have hr : rdIt b s a = (true, s) := by unfold rdIt; rw [if_neg k0, if_neg k1, if_neg k2, if_neg k3]
        rw [hr] at HQ
        clear hr k0 k1 k2 k3
        go_wp2
        go_roundw
        case rel => exact ⟨k + 1, s, by omega, by go_num, hRk, HQ.out, hgr⟩
        case measure => simp [intOf]; omega
    · have hd1 : decide ((k : Int) < (n2 : Int)) = false := by simp; omega
      have hq' : (true, s) = R := by
        rw [← hq, List.drop_of_length_le (by omega)]; rfl
      have HQ := Lib.hid hq'
      clear hq hq'
      go_wp2
      go_ret
      rw [← HQ.out]
      exact ⟨rfl, hRk, hgr⟩
end Go.Proofs.Ytglddefjmnjgdaa
