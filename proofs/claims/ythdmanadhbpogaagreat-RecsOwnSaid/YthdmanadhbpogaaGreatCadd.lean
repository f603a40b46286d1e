/- Two records that Decode tells: what the chapter's examples fix. -/
import Derived.Defers
import Derived.Recover
import Derived.WalkLawsBesides
import Derived.Test.YthdmanadhbpogaaGreatCaag
import Derived.Test.YthdmanadhbpogaaGreatCace
import Derived.Test.YthdmanadhbpogaaGreatCadc
namespace Go.Proofs.YthdmanadhbpogaaGreat
set_option maxHeartbeats 4000000
set_option maxRecDepth 100000
set_option linter.unusedVariables false
open Go.RowKit Fl
attribute [local go_sem] run_store_float
abbrev rcZ (k a b c n : Int) : Rc := ⟨k, ⟨a, b, c⟩, ⟨0, 0, 0⟩, ⟨0, 0, 0⟩, false, n, 0, [], [], [], [], zeroS⟩
abbrev hdZ : Hds := ⟨Hd.nil, Hd.nil, Hd.nil, Hd.nil, Hd.nil, Hd.nil⟩
theorem walkR_10 (w : World) (g : Nat) (A : Option Addr) (n c : Nat) (l : List UInt8) (s s0 s1 s2 s3 : RS) (v1 v2 v3 : Int) (gc b : Nat) (h : CR w g A n c l s gc) (hb : Blk w b 38 ((rcZ 0 0 0 0 0).vals hdZ))
 (h1 : b ≠ g) (h2 : b ≠ gc) (h3 : ∀ a, A = some a → 0 < n → a.block ≠ b) (hr0 : rInt l s = (10, s0)) (hs0 : s0.e = 0) (hr1 : rInt l s0 = (v1, s1)) (hs1 : s1.e = 0) (hr2 : rInt l s1 = (v2, s2)) (hs2 : s2.e = 0) (hr3 : rInt l s2 = (v3, s3)) (hs3 : s3.e = 0) :
 Calls Tryz.prog 61 #[.pointer (some ⟨gc, 0, none⟩), .pointer (some ⟨b, 0, none⟩)] w fun e w' => e = .returned (.tuple #[]) ∧ CR w' g A n c l s3 gc ∧ Blk w' b 38 ((rcZ 10 v1 v2 v3 0).vals hdZ) ∧ Two2 w w' g b := by
 go_enter Tryz.func61, Tryz.ntmps61
 go_wp2_with fail
 refine (rcInt_ok w g A n c l s s0 10 gc b 0 38 _ 0 h hb rfl h1 h2 h3 hr0 hs0).mono ?_
 rintro e w1 ⟨rfl, c1, k1, t1⟩
 have c0 : w1.cell? ⟨b, 0, none⟩ = some (.int .i64 10) := k1.cell 0
 go_wp2_with fail
 refine (rcTxn_ok w1 g A n c l s0 s1 s2 s3 v1 v2 v3 gc b 1 38 _ 0 0 0 c1 k1 rfl rfl rfl h1 h2 h3 hr1 hs1 hr2 hs2 hr3 hs3).mono ?_
 rintro e w2 ⟨rfl, c2, k2, t2⟩
 go_wp2
 go_end0
 exact ⟨rfl, c2, k2, t1.trans t2⟩
theorem walkR_7 (w : World) (g : Nat) (A : Option Addr) (n c : Nat) (l : List UInt8) (s s0 s1 : RS) (v1 : Int) (gc b : Nat) (h : CR w g A n c l s gc) (hb : Blk w b 38 ((rcZ 0 0 0 0 0).vals hdZ))
 (h1 : b ≠ g) (h2 : b ≠ gc) (h3 : ∀ a, A = some a → 0 < n → a.block ≠ b) (hr0 : rInt l s = (7, s0)) (hs0 : s0.e = 0) (hr1 : rInt l s0 = (v1, s1)) (hs1 : s1.e = 0) :
 Calls Tryz.prog 61 #[.pointer (some ⟨gc, 0, none⟩), .pointer (some ⟨b, 0, none⟩)] w fun e w' => e = .returned (.tuple #[]) ∧ CR w' g A n c l s1 gc ∧ Blk w' b 38 ((rcZ 7 0 0 0 v1).vals hdZ) ∧ Two2 w w' g b := by
 go_enter Tryz.func61, Tryz.ntmps61
 go_wp2_with fail
 refine (rcInt_ok w g A n c l s s0 7 gc b 0 38 _ 0 h hb rfl h1 h2 h3 hr0 hs0).mono ?_
 rintro e w1 ⟨rfl, c1, k1, t1⟩
 have c0 : w1.cell? ⟨b, 0, none⟩ = some (.int .i64 7) := k1.cell 0
 go_wp2_with fail
 refine (rcInt_ok w1 g A n c l s0 s1 v1 gc b 11 38 _ 0 c1 k1 rfl h1 h2 h3 hr1 hs1).mono ?_
 rintro e w2 ⟨rfl, c2, k2, t2⟩
 go_wp2
 go_end0
 exact ⟨rfl, c2, k2, t1.trans t2⟩
theorem catch_idle (p q : Addr) (w : World) :
 CallsD Tryz.prog 64 #[.pointer (some p), .pointer (some q)] .returning w fun e u' w' => e = .returned (.tuple #[]) ∧ u' = .returning ∧ w = w' := by
 refine callsD_of_wpS Tryz.func64 rfl fun c₀ cs hu => ?_
 apply wpS_seq
 apply wpS_region
 simp [wpOpsS, go_sem, recoverD, hu, Tryz.ntmps64, Exit.thenS]
 refine wpS_of_wp ?_
 go_wp2
 cases c₀
 simp_all [bodyPostS, results, Tryz.results64]
theorem run_errno {w : World} {k : Nat} {x : Int} (hb : Blk w k 42 #[.int .i64 x]) : (loadVar 42 ⟨k, 0, none⟩).run Tryz.prog w = .ok (.int .i64 x) w := by
 have c : w.cell? ⟨k, 0, none⟩ = some (.int .i64 x) := hb.cell 0
 simp [go_sem, c]
theorem decode_door {fn : Func} {tmps : Array Value} {R : Ending → World → Prop} {w : World} {p q : Tmp} {g k : Nat} {cs : Array Value} {x : Int} (h : fn.results = #[.cell p 38, .cell q 42]) (hp : tmps.getD p undef = .pointer (some ⟨g, 0, none⟩)) (hq : tmps.getD q undef = .pointer (some ⟨k, 0, none⟩))
 (hb : Blk w g 38 cs) (hb' : Blk w k 42 #[.int .i64 x]) (hi : (Tryz.prog.info? 38).map (·.size) = some cs.size) (hR : R (.returned (.tuple #[.agg cs, .int .i64 x])) w) : Leaves Tryz.prog fn tmps R [] .returning w := by
 have hp' : tmps[p]?.getD undef = .pointer (some ⟨g, 0, none⟩) := by simpa using hp
 have hq' : tmps[q]?.getD undef = .pointer (some ⟨k, 0, none⟩) := by simpa using hq
 refine ⟨_, ?_, hR⟩
 simp [results, h, hp', hq', asAddr, run_loadVar_blk hb Tryz.underlying38 rfl hi, run_errno hb', Sem.run_bind, Result.andThen]
theorem bequal (w : World) {B B' : Nat} {A A' : Option Addr} {n n' c c' : Nat} {a b : List UInt8} (ha : Reads w B 1 A n (bytesV a)) (hb : Reads w B' 1 A' n' (bytesV b)) :
 Calls Tryz.prog 65 #[.slice A n c, .slice A' n' c'] w fun e w' => e = .returned (.bool (a == b)) ∧ w = w' := by
 have h1 := run_conv_reads (P := Tryz.prog) w 48 9 5 Tryz.underlying48 Tryz.underlying5 Tryz.underlying9 (c := c) ha
 have h2 := run_conv_reads (P := Tryz.prog) w 48 9 5 Tryz.underlying48 Tryz.underlying5 Tryz.underlying9 (c := c') hb
 go_enter Tryz.func65, Tryz.ntmps65
 go_wp2
 go_ret
 exact ⟨rfl, rfl⟩
theorem hdZ_caps : hdZ.caps := by
 have h : (0 : Nat) ≤ 0 ∧ 0 ≤ maxLen := ⟨Nat.le_refl _, Nat.zero_le _⟩
 exact ⟨h, h, h, h, h, h⟩
theorem rcZ_in (w : World) (k a b c n : Int) : RcIn w (rcZ k a b c n) hdZ := ⟨Sl.nil, Sl.nil, Sl.nil, Sl.nil, Sl.nil, Sl.nil, Nat.zero_le _, Nat.zero_le _, Nat.zero_le _, Nat.zero_le _, Nat.zero_le _, Nat.zero_le _⟩
theorem rcZ_sm (k a b c n : Int) : RcSm (rcZ k a b c n) hdZ := ⟨Nat.zero_le _, Nat.zero_le _, Nat.zero_le _, Nat.zero_le _, ⟨Nat.zero_le _, fun x hx => by cases hx⟩, ⟨Nat.zero_le _, fun x hx => by cases hx⟩⟩
theorem rcZ_ok {k a b c n : Int} (hk : i64ok k) (ha : i64ok a) (hb : i64ok b) (hc : i64ok c) (hn : i64ok n) : (rcZ k a b c n).ok := by
 have h0 : i64ok 0 := by unfold i64ok; omega
 exact ⟨hk, ⟨ha, hb, hc⟩, ⟨h0, h0, h0⟩, ⟨h0, h0, h0⟩, hn, by show 0 < _; omega, ⟨h0, h0, by show 0 < _; omega, by show 0 < _; omega⟩, ⟨h0, h0, h0⟩, ⟨h0, h0, h0⟩⟩
def DecPost (w : World) (r : Rc) (er : Int) : Ending → World → Prop := fun e w' => e = .returned (.tuple #[.agg (r.vals hdZ), .int .i64 er]) ∧ Below w.heap.size w w'
theorem decode_b (A : Option Addr) (c : Nat) (w : World) (h : Reads w w.heap.size 1 A 3 (bytesV [14, 6, 0])) :
 Calls Tryz.prog 23 #[.slice A 3 c] w (DecPost w (rcZ 0 0 0 0 0) 4) := by
 have hmf : ∀ (fn : Fn) (first cap : Array Value) (w : World), (Instr.makeFunc fn first cap).run Tryz.prog w = .ok (.func fn first cap) w := fun _ _ _ _ => rfl
 go_enter_defers Tryz.func23, Tryz.ntmps23
 have B0 : Blk ((w.alloc (.cells ((rcZ 0 0 0 0 0).vals hdZ) 38)).alloc (.cells #[.int .i64 0] 42)) w.heap.size 38 ((rcZ 0 0 0 0 0).vals hdZ) := (Blk.new _ _ _).alloc _
 have E0 : Blk ((w.alloc (.cells ((rcZ 0 0 0 0 0).vals hdZ) 38)).alloc (.cells #[.int .i64 0] 42)) (w.heap.size + 1) 42 #[.int .i64 0] := Blk.new' _ _ (by simp)
 have hX : Below w.heap.size w ((w.alloc (.cells ((rcZ 0 0 0 0 0).vals hdZ) 38)).alloc (.cells #[.int .i64 0] 42)) := by go_grown
 have hXs : w.heap.size + 1 < (((w.alloc (.cells ((rcZ 0 0 0 0 0).vals hdZ) 38)).alloc (.cells #[.int .i64 0] 42))).heap.size := by simp
 have hRX := (h.below hX).more hX.size
 go_wp2_with fail
 refine (wRNew A 3 c [14, 6, 0] _ hRX (by omega)).mono ?_
 rintro e w1 ⟨A1, n1, c1, rfl, hz, hge, hrd, had, hb1⟩
 have B1 := B0.below hb1 B0.lt
 have E1 := E0.below hb1 E0.lt
 have hX1 := hX.trans (hb1.mono hX.size)
 clear B0 E0 hb1 hX hRX h
 obtain ⟨g, hg⟩ : ∃ g, g = w1.heap.size - 1 := ⟨_, rfl⟩
 rw [← hg] at hge hrd ⊢
 have hgl : g < w1.heap.size := by omega
 have HG := Lib.hid hg
 clear hg
 have hD : Below w1.heap.size w1 (w1.alloc (.cells #[.pointer none, .pointer (some ⟨g, 0, none⟩)] 109)) := by go_grown
 have hbg : w.heap.size ≠ g := by omega
 have hbc : w.heap.size ≠ w1.heap.size := by omega
 have hC : CR (w1.alloc (.cells #[.pointer none, .pointer (some ⟨g, 0, none⟩)] 109)) g A1 n1 c1 [14, 6, 0] ⟨0, 0, 0⟩ w1.heap.size :=
  ⟨hrd.below hD, Blk.new _ _ _, by omega, fun a ha hn => by
   obtain ⟨ad, e, hlt, _⟩ := hrd.reads.2 hn
   rw [ha] at e
   obtain rfl := Option.some.inj e
   omega⟩
 have B2 := B1.below hD B1.lt
 have E2 := E1.below hD E1.lt
 have hX2 := hX1.trans (hD.mono hX1.size)
 have had' : ∀ a, A1 = some a → 0 < n1 → a.block ≠ w.heap.size := fun a ha _ => by have := had a ha; omega
 have hgY : g < (w1.alloc (.cells #[.pointer none, .pointer (some ⟨g, 0, none⟩)] 109)).heap.size := by simp; omega
 have hWW : w.heap.size ≤ g := by omega
 have hE3 : w.heap.size + 1 ≠ g := by omega
 clear B1 E1 hX1 hD had hge hrd hXs
 go_wp2_with fail
 refine (walkR_7 _ g A1 n1 c1 [14, 6, 0] ⟨0, 0, 0⟩ ⟨1, 0, 0⟩ ⟨2, 0, 0⟩ 3 w1.heap.size w.heap.size hC B2 hbg hbc had' (by kernel_rfl) rfl (by kernel_rfl) rfl).mono ?_
 rintro e w2 ⟨rfl, hC2, B3, t2⟩
 have E3 : Blk w2 (w.heap.size + 1) 42 #[.int .i64 0] := (t2.block _ E2.lt hE3 (by omega)).trans E2
 have hX3 : Below w.heap.size w w2 := hX2.trans (t2.below hWW (Nat.le_refl _) hX2.size)
 clear hC B2 E2 hX2 t2 hz
 have hE := wREnd g A1 n1 c1 [14, 6, 0] ⟨2, 0, 0⟩ w2 hC2.rd
 rw [show rEnd [14, 6, 0] ⟨2, 0, 0⟩ = (6, 2) from by kernel_rfl] at hE
 go_wp2_with fail
 refine hE.mono ?_
 rintro e w3 ⟨rfl, q, rfl⟩
 have hQ : Below w2.heap.size w2 (w2.drewN q) := belowN _
 have B4 := B3.below hQ B3.lt
 have E4 := E3.below hQ E3.lt
 have hX4 := hX3.trans (hQ.mono hX3.size)
 clear hE hC2 B3 E3 hX3 hQ
 go_wp2_with (first
  | (guard_target =~ wpList _ _ _ _ _ _; refine wpList_store_row rfl 38 _ _ rfl w.heap.size ((rcZ 0 0 0 0 0).vals hdZ) (by kernel_rfl) (by kernel_rfl) _ _ B4 (by kernel_rfl) (by kernel_rfl) (by kernel_rfl) ?_
     obtain ⟨W5, hW5⟩ : ∃ W5 : World, W5 = (w2.drewN q).setRow w.heap.size ((rcZ 0 0 0 0 0).vals hdZ) := ⟨_, rfl⟩
     rw [← hW5]
     have B5 : Blk W5 w.heap.size 38 ((rcZ 0 0 0 0 0).vals hdZ) := by rw [hW5]; exact B4.setRow _
     have E5 : Blk W5 (w.heap.size + 1) 42 #[.int .i64 0] := by rw [hW5]; exact E4.setRow_far _ (by omega)
     have hX5 : Below w.heap.size w W5 := by rw [hW5]; exact below_setRow hX4 (Nat.le_refl _) _
     have z5 : W5.cell? ⟨w.heap.size + 1, 0, none⟩ = some (.int .i64 0) := E5.cell 0
     have f5 : W5.frozen? ⟨w.heap.size + 1, 0, none⟩ = false := E5.frozen 0
     clear hW5))
 have B6 := B5.far (p := ⟨w.heap.size + 1, 0, none⟩) (by simp) (.int .i64 4)
 have E6 := E5.set_ 0 (.int .i64 4)
 have hX6 := hX5.setCell (p := ⟨w.heap.size + 1, 0, none⟩) (by simp) (.int .i64 4)
 refine leaves_cons (f := 64) (args := #[.pointer (some ⟨w.heap.size, 0, none⟩), .pointer (some ⟨w.heap.size + 1, 0, none⟩)]) (by simp) (by simp [go_sem]) ?_
 refine (catch_idle _ _ _).mono ?_
 rintro e u w7 ⟨rfl, rfl, rfl⟩
 exact decode_door rfl rfl rfl B6 E6 (by kernel_rfl) ⟨rfl, hX6⟩
theorem decode_a (A : Option Addr) (c : Nat) (w : World) (h : Reads w w.heap.size 1 A 4 (bytesV [20, 2, 4, 6])) :
 Calls Tryz.prog 23 #[.slice A 4 c] w (DecPost w (rcZ 10 1 2 3 0) 0) := by
 have hmf : ∀ (fn : Fn) (first cap : Array Value) (w : World), (Instr.makeFunc fn first cap).run Tryz.prog w = .ok (.func fn first cap) w := fun _ _ _ _ => rfl
 go_enter_defers Tryz.func23, Tryz.ntmps23
 have B0 : Blk ((w.alloc (.cells ((rcZ 0 0 0 0 0).vals hdZ) 38)).alloc (.cells #[.int .i64 0] 42)) w.heap.size 38 ((rcZ 0 0 0 0 0).vals hdZ) := (Blk.new _ _ _).alloc _
 have E0 : Blk ((w.alloc (.cells ((rcZ 0 0 0 0 0).vals hdZ) 38)).alloc (.cells #[.int .i64 0] 42)) (w.heap.size + 1) 42 #[.int .i64 0] := Blk.new' _ _ (by simp)
 have hX : Below w.heap.size w ((w.alloc (.cells ((rcZ 0 0 0 0 0).vals hdZ) 38)).alloc (.cells #[.int .i64 0] 42)) := by go_grown
 have hXs : w.heap.size + 1 < (((w.alloc (.cells ((rcZ 0 0 0 0 0).vals hdZ) 38)).alloc (.cells #[.int .i64 0] 42))).heap.size := by simp
 have hRX := (h.below hX).more hX.size
 go_wp2_with fail
 refine (wRNew A 4 c [20, 2, 4, 6] _ hRX (by omega)).mono ?_
 rintro e w1 ⟨A1, n1, c1, rfl, hz, hge, hrd, had, hb1⟩
 have B1 := B0.below hb1 B0.lt
 have E1 := E0.below hb1 E0.lt
 have hX1 := hX.trans (hb1.mono hX.size)
 have hR := h
 clear B0 E0 hb1 hX hRX h
 obtain ⟨g, hg⟩ : ∃ g, g = w1.heap.size - 1 := ⟨_, rfl⟩
 rw [← hg] at hge hrd ⊢
 have hgl : g < w1.heap.size := by omega
 have HG := Lib.hid hg
 clear hg
 have hD : Below w1.heap.size w1 (w1.alloc (.cells #[.pointer none, .pointer (some ⟨g, 0, none⟩)] 109)) := by go_grown
 have hbg : w.heap.size ≠ g := by omega
 have hbc : w.heap.size ≠ w1.heap.size := by omega
 have hC : CR (w1.alloc (.cells #[.pointer none, .pointer (some ⟨g, 0, none⟩)] 109)) g A1 n1 c1 [20, 2, 4, 6] ⟨0, 0, 0⟩ w1.heap.size :=
  ⟨hrd.below hD, Blk.new _ _ _, by omega, fun a ha hn => by
   obtain ⟨ad, e, hlt, _⟩ := hrd.reads.2 hn
   rw [ha] at e
   obtain rfl := Option.some.inj e
   omega⟩
 have B2 := B1.below hD B1.lt
 have E2 := E1.below hD E1.lt
 have hX2 := hX1.trans (hD.mono hX1.size)
 have had' : ∀ a, A1 = some a → 0 < n1 → a.block ≠ w.heap.size := fun a ha _ => by have := had a ha; omega
 have hgY : g < (w1.alloc (.cells #[.pointer none, .pointer (some ⟨g, 0, none⟩)] 109)).heap.size := by simp; omega
 have hWW : w.heap.size ≤ g := by omega
 have hE3 : w.heap.size + 1 ≠ g := by omega
 clear B1 E1 hX1 hD had hge hrd hXs
 go_wp2_with fail
 refine (walkR_10 _ g A1 n1 c1 [20, 2, 4, 6] ⟨0, 0, 0⟩ ⟨1, 0, 0⟩ ⟨2, 0, 0⟩ ⟨3, 0, 0⟩ ⟨4, 0, 0⟩ 1 2 3 w1.heap.size w.heap.size hC B2 hbg hbc had' (by kernel_rfl) rfl (by kernel_rfl) rfl (by kernel_rfl) rfl (by kernel_rfl) rfl).mono ?_
 rintro e w2 ⟨rfl, hC2, B3, t2⟩
 have E3 : Blk w2 (w.heap.size + 1) 42 #[.int .i64 0] := (t2.block _ E2.lt hE3 (by omega)).trans E2
 have hX3 : Below w.heap.size w w2 := hX2.trans (t2.below hWW (Nat.le_refl _) hX2.size)
 clear hC B2 E2 hX2 t2 hz
 have hE := wREnd g A1 n1 c1 [20, 2, 4, 6] ⟨4, 0, 0⟩ w2 hC2.rd
 rw [show rEnd [20, 2, 4, 6] ⟨4, 0, 0⟩ = (0, 0) from by kernel_rfl] at hE
 have i0 : i64ok 0 := by unfold i64ok; omega
 have i1 : i64ok 1 := by unfold i64ok; omega
 have i2 : i64ok 2 := by unfold i64ok; omega
 have i3 : i64ok 3 := by unfold i64ok; omega
 have i10 : i64ok 10 := by unfold i64ok; omega
 have hN := fun W => encode_any (rcZ 10 1 2 3 0) hdZ W (rcZ_ok i10 i1 i2 i3 i0) (rcZ_in W 10 1 2 3 0) hdZ_caps (rcZ_sm 10 1 2 3 0) (by rw [show encRc (rcZ 10 1 2 3 0) = [20, 2, 4, 6] from by kernel_rfl]; simp)
 rw [show encOut (rcZ 10 1 2 3 0) = [20, 2, 4, 6] from by kernel_rfl, show encE (rcZ 10 1 2 3 0) = 0 from by kernel_rfl] at hN
 clear i0 i1 i2 i3 i10
 go_wp2_with fail
 refine hE.mono ?_
 rintro e w3 ⟨rfl, q, rfl⟩
 have hQ : Below w2.heap.size w2 (w2.drewN q) := belowN _
 have B4 := B3.below hQ B3.lt
 have E4 := E3.below hQ E3.lt
 have hX4 := hX3.trans (hQ.mono hX3.size)
 have hR4 := (hR.below hX4).more hX4.size
 clear hE hC2 B3 E3 hX3 hQ hR
 have z4 : (w2.drewN q).cell? ⟨w.heap.size + 1, 0, none⟩ = some (.int .i64 0) := E4.cell 0
 go_wp2_with (first
  | (guard_target =~ wpList _ _ _ _ _ _; refine wpList_load_row rfl 38 _ rfl w.heap.size (by kernel_rfl) _ _ (0, 0) _ B5 rfl rfl (by kernel_rfl) ?_)
  | (guard_target =~ wpList _ _ _ _ _ _; refine wpList_load_row rfl 38 _ rfl w.heap.size (by kernel_rfl) _ _ (0, 0) _ B4 rfl rfl (by kernel_rfl) ?_)
  | ((with_reducible refine (hN _).mono ?_); rintro e w4 ⟨A5, c5, rfl, hq5, hm5, hown5, hb5⟩
     have B5 := B4.below hb5 B4.lt
     have E5 := E4.below hb5 E4.lt
     have hX5 := hX4.trans (hb5.mono hX4.size)
     have hR5 := (hR4.below hb5).more hb5.size
     have hO5 : Reads w4 w4.heap.size 1 A5 4 (bytesV [20, 2, 4, 6]) := Reads.of_own hown5
     have hEq := bequal w4 (c := c5) (c' := c) hO5 hR5
     rw [show (([20, 2, 4, 6] : List UInt8) == [20, 2, 4, 6]) = true from by decide] at hEq
     clear hown5 hb5 hR4 hN)
  | ((with_reducible refine hEq.mono ?_); rintro e w5 ⟨rfl, rfl⟩)
  | (guard_target =~ wpList _ _ _ _ _ _; refine wpList_store_row rfl 38 _ _ rfl w.heap.size ((rcZ 10 1 2 3 0).vals hdZ) (by kernel_rfl) (by kernel_rfl) _ _ B5 (by kernel_rfl) (by kernel_rfl) (by kernel_rfl) ?_
     obtain ⟨W6, hW6⟩ : ∃ W6 : World, W6 = w4.setRow w.heap.size ((rcZ 10 1 2 3 0).vals hdZ) := ⟨_, rfl⟩
     rw [← hW6]
     have B6 : Blk W6 w.heap.size 38 ((rcZ 10 1 2 3 0).vals hdZ) := by rw [hW6]; exact B5.setRow _
     have E6 : Blk W6 (w.heap.size + 1) 42 #[.int .i64 0] := by rw [hW6]; exact E5.setRow_far _ (by omega)
     have hX6 : Below w.heap.size w W6 := by rw [hW6]; exact below_setRow hX5 (Nat.le_refl _) _
     have z6 : W6.cell? ⟨w.heap.size + 1, 0, none⟩ = some (.int .i64 0) := E6.cell 0
     have f6 : W6.frozen? ⟨w.heap.size + 1, 0, none⟩ = false := E6.frozen 0
     clear hW6))
 have B7 := B6.far (p := ⟨w.heap.size + 1, 0, none⟩) (by simp) (.int .i64 0)
 have E7 := E6.set_ 0 (.int .i64 0)
 have hX7 := hX6.setCell (p := ⟨w.heap.size + 1, 0, none⟩) (by simp) (.int .i64 0)
 refine leaves_cons (f := 64) (args := #[.pointer (some ⟨w.heap.size, 0, none⟩), .pointer (some ⟨w.heap.size + 1, 0, none⟩)]) (by simp) (by simp [go_sem]) ?_
 refine (catch_idle _ _ _).mono ?_
 rintro e u w7 ⟨rfl, rfl, rfl⟩
 exact decode_door rfl rfl rfl B7 E7 (by kernel_rfl) ⟨rfl, hX7⟩
end Go.Proofs.YthdmanadhbpogaaGreat
/- What the chapter's examples fix: the law's first. -/
namespace Go.Proofs.YthdmanadhbpogaaGreat
set_option linter.unusedVariables false
open Go.RowKit Fl
attribute [local go_sem] run_store_float
theorem lit3 (w : World) : Reads (w.alloc (.cells #[.int .u8 14, .int .u8 6, .int .u8 0] 5)) (w.alloc (.cells #[.int .u8 14, .int .u8 6, .int .u8 0] 5)).heap.size 1 (some ⟨w.heap.size, 0, none⟩) 3 (bytesV [14, 6, 0]) :=
 Reads.of_own (World.ownsRow_lit w #[.int .u8 14, .int .u8 6, .int .u8 0] 3 (Nat.le_refl _) (by unfold maxLen; omega) rfl)
set_option maxRecDepth 100000 in
set_option maxHeartbeats 4000000 in
theorem first_any (w : World) : Calls Tryz.prog 9 #[] w fun e w' => e = .returned (.bool true) ∧ Below w.heap.size w w' := by
 have i0 : i64ok 0 := by unfold i64ok; omega
 have i3 : i64ok 3 := by unfold i64ok; omega
 have i7 : i64ok 7 := by unfold i64ok; omega
 have i99 : i64ok 99 := by unfold i64ok; omega
 have hN := fun W => encode_any (rcZ 7 0 0 0 3) hdZ W (rcZ_ok i7 i0 i0 i0 i3) (rcZ_in W 7 0 0 0 3) hdZ_caps (rcZ_sm 7 0 0 0 3) (by rw [show encRc (rcZ 7 0 0 0 3) = [14, 6] from by kernel_rfl]; simp)
 rw [show encOut (rcZ 7 0 0 0 3) = [14, 6] from by kernel_rfl, show encE (rcZ 7 0 0 0 3) = 0 from by kernel_rfl] at hN
 have hM := fun W => recMay_any (rcZ 99 0 0 0 0) hdZ W (rcZ_ok i99 i0 i0 i0 i0) (rcZ_in W 99 0 0 0 0) (rcZ_sm 99 0 0 0 0)
 rw [show recMay (rcZ 99 0 0 0 0) = 7 from by kernel_rfl] at hM
 clear i0 i3 i7 i99
 go_enter Tryz.func9, Tryz.ntmps9
 go_wp2_with fail
 refine (hN _).mono ?_
 rintro e w1 ⟨A1, c1, rfl, hq1, hm1, hown1, hb1⟩
 have hR1 : Reads w1 w1.heap.size 1 A1 2 (bytesV [14, 6]) := Reads.of_own hown1
 have hRa : Reads (w1.alloc (.cells #[.int .u8 20, .int .u8 2, .int .u8 4, .int .u8 6] 5)) (w1.alloc (.cells #[.int .u8 20, .int .u8 2, .int .u8 4, .int .u8 6] 5)).heap.size 1 (some ⟨w1.heap.size, 0, none⟩) 4 (bytesV [20, 2, 4, 6]) :=
  Reads.of_own (World.ownsRow_lit w1 #[.int .u8 20, .int .u8 2, .int .u8 4, .int .u8 6] 4 (Nat.le_refl _) (by unfold maxLen; omega) rfl)
 have hXa : Below w1.heap.size w1 (w1.alloc (.cells #[.int .u8 20, .int .u8 2, .int .u8 4, .int .u8 6] 5)) := by go_grown
 clear hown1 hN
 go_wp2_with fail
 refine (decode_a _ 4 _ hRa).mono ?_
 rintro e w2 ⟨rfl, hb2⟩
 have hB2 := hXa.trans (hb2.mono hXa.size)
 clear hRa hXa hb2
 go_wp2_with (guard_target =~ wpList _ _ _ _ _ _; refine wpList_store_at rfl 38 _ _ rfl w2.heap.size ((rcZ 10 1 2 3 0).vals hdZ) (by kernel_rfl) (by kernel_rfl) rfl _ _ (by kernel_rfl) (by kernel_rfl) (by kernel_rfl) ?_)
 have hRb : Reads ((w2.alloc (.cells ((rcZ 10 1 2 3 0).vals hdZ) 38)).alloc (.cells #[.int .u8 14, .int .u8 6, .int .u8 0] 5)) ((w2.alloc (.cells ((rcZ 10 1 2 3 0).vals hdZ) 38)).alloc (.cells #[.int .u8 14, .int .u8 6, .int .u8 0] 5)).heap.size 1 (some ⟨w2.heap.size + 1, 0, none⟩) 3 (bytesV [14, 6, 0]) := by
  have h3 := lit3 (w2.alloc (.cells ((rcZ 10 1 2 3 0).vals hdZ) 38))
  rw [show (w2.alloc (.cells ((rcZ 10 1 2 3 0).vals hdZ) 38)).heap.size = w2.heap.size + 1 from World.size_alloc _ _] at h3
  exact h3
 have B2 : Blk ((w2.alloc (.cells ((rcZ 10 1 2 3 0).vals hdZ) 38)).alloc (.cells #[.int .u8 14, .int .u8 6, .int .u8 0] 5)) w2.heap.size 38 ((rcZ 10 1 2 3 0).vals hdZ) := (Blk.new _ _ _).alloc _
 have hXb : Below w2.heap.size w2 ((w2.alloc (.cells ((rcZ 10 1 2 3 0).vals hdZ) 38)).alloc (.cells #[.int .u8 14, .int .u8 6, .int .u8 0] 5)) := by go_grown
 refine (decode_b _ 3 _ hRb).mono ?_
 rintro e w3 ⟨rfl, hb3⟩
 have B3 := B2.below hb3 B2.lt
 have hB3 := hXb.trans (hb3.mono hXb.size)
 clear hRb B2 hXb hb3
 have hB13 := hB2.trans (hB3.mono hB2.size)
 have hR3 := (hR1.below hB13).more hB13.size
 have B4 := B3.alloc (.cells ((rcZ 0 0 0 0 0).vals hdZ) 38)
 have hX4 : Below w3.heap.size w3 (w3.alloc (.cells ((rcZ 0 0 0 0 0).vals hdZ) 38)) := by go_grown
 have hR4 := (hR3.below hX4).more hX4.size
 have hcv : ∀ c1 : Nat, (convert 48 9 (.slice A1 2 c1)).run Tryz.prog (w3.alloc (.cells ((rcZ 0 0 0 0 0).vals hdZ) 38)) = .ok (.string ⟨#[14, 6]⟩) (w3.alloc (.cells ((rcZ 0 0 0 0 0).vals hdZ) 38)) := fun c1 => run_conv_reads (P := Tryz.prog) (w3.alloc (.cells ((rcZ 0 0 0 0 0).vals hdZ) 38)) 48 9 5 Tryz.underlying48 Tryz.underlying5 Tryz.underlying9 (c := c1) hR4
 have z0 : (w3.alloc (.cells ((rcZ 0 0 0 0 0).vals hdZ) 38)).cell? ⟨w2.heap.size, 0, none⟩ = some (.int .i64 10) := B4.cell 0
 have z1 : (w3.alloc (.cells ((rcZ 0 0 0 0 0).vals hdZ) 38)).cell? ⟨w2.heap.size, 1, none⟩ = some (.int .i64 1) := B4.cell 1
 have z2 : (w3.alloc (.cells ((rcZ 0 0 0 0 0).vals hdZ) 38)).cell? ⟨w2.heap.size, 2, none⟩ = some (.int .i64 2) := B4.cell 2
 have z3 : (w3.alloc (.cells ((rcZ 0 0 0 0 0).vals hdZ) 38)).cell? ⟨w2.heap.size, 3, none⟩ = some (.int .i64 3) := B4.cell 3
 have zt := txn_run ⟨1, 2, 3⟩ ⟨1, 2, 3⟩ (w3.alloc (.cells ((rcZ 0 0 0 0 0).vals hdZ) 38))
 go_wp2_with (guard_target =~ wpList _ _ _ _ _ _; refine wpList_store_at rfl 38 _ _ rfl w3.heap.size ((rcZ 0 0 0 0 0).vals hdZ) (by kernel_rfl) (by kernel_rfl) rfl _ _ (by kernel_rfl) (by kernel_rfl) (by kernel_rfl) ?_)
 refine (hM _).mono ?_
 rintro e w4 ⟨rfl, hb4⟩
 go_wp2
 go_ret
 have hB4 := hB3.trans (hX4.mono hB3.size)
 have hB5 := hB4.trans (hb4.mono hB4.size)
 have hB6 := hB2.trans (hB5.mono hB2.size)
 exact ⟨rfl, hb1.trans (hB6.mono hb1.size)⟩
end Go.Proofs.YthdmanadhbpogaaGreat
