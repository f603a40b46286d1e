/- Words for a reader's own walks: a slice of bytes cut and made a string; draws. -/
import Derived.Laws.BytesArg
import Derived.Laws.Slices
import Derived.Laws.OwnMore
import Derived.Test.YthdmanadhbpogaaGreatCaab
import Derived.Test.YthdmanadhbpogaaGreatCaae
import Derived.Test.YthdmanadhbpogaaGreatCaaf
namespace Go.Proofs.YthdmanadhbpogaaGreat
open Go.RowKit Fl
section
variable {P : Program} (w : World)
theorem run_conv_reads (src dst e : TypeId) (hs : P.underlying src = some (.slice e)) (he : P.underlying e = some (.int .u8)) (hd : P.underlying dst = some .string)
 {B : Nat} {A : Option Addr} {n c : Nat} {bs : List UInt8} (hr : Reads w B 1 A n (bytesV bs)) : (convert src dst (.slice A n c)).run P w = .ok (.string ⟨bs.toArray⟩) w := by
 have hn : bs.length = n := by have := hr.1; simpa using this
 rcases A with _ | ad
 · have h0 : n = 0 := by
    rcases Nat.eq_zero_or_pos n with h0 | h0
    · exact h0
    · obtain ⟨ad, h, _⟩ := hr.2 h0; cases h
   obtain rfl : bs = [] := List.eq_nil_of_length_eq_zero (by omega)
   rw [run_convert_bytes_nil w src e hs he n c dst hd]; rfl
 · have hcell : ∀ j u, (bytesV bs)[j]? = some u → w.cell? (ad.add j) = some u := by
    intro j u hu
    have : 0 < n := by
        have := (List.getElem?_eq_some_iff.1 hu).1
        simp at this; omega
    obtain ⟨ad', e, _, hc⟩ := hr.2 this
    obtain rfl : ad = ad' := Option.some.inj e
    exact hc j u hu
   have hl := run_loadCells_list (P := P) w ad (bytesV bs) hcell
   rw [bytesV_len, hn] at hl
   have e2 : bytesV bs = (bs.map fun x => (x.toNat : Int)).map (Value.int .u8) := by simp
   rw [e2] at hl
   rw [run_convert_bytes_string w src dst e _ n c hs he hd, run_bytesToString w ad n c _ hl, foldl_push_bytes]
   congr 2
   apply ByteArray.ext
   show (#[] : Array UInt8) ++ _ = _
   rw [Array.empty_append, List.map_map]
   congr 1
   conv => rhs; rw [← List.map_id bs]
   apply List.map_congr_left
   intro x _
   simp
end
section
variable {t : TypeId} {w w' : World} {g : Nat} {A : Option Addr} {n c : Nat} {l : List UInt8} {s s' : RS}
theorem Rd.drewN (h : Rd t w g A n c l s) (k : Nat) : Rd t (w.drewN k) g A n c l s := ⟨h.blk, h.reads, h.len, h.small, h.apart, h.at_le, h.nc, h.cm⟩
end
def cnt (l : List UInt8) (s : RS) (most e : Int) : Option (Int × Nat) × RS :=
 match dec l s.at_ with
 | .short => (none, rFail s 5 l.length)
 | .form => (none, rFail s 4 s.at_)
 | .ok n next => if n < 0 then (none, rFail s 4 s.at_) else if most < n then (none, rFail s e s.at_) else (some (n, next), s)
end Go.Proofs.YthdmanadhbpogaaGreat
/- The walks of a reader's functions: Int, Flag, Float, count, Text, Count, Choice, Left, Fail, Place, Fault, End, NewReader. -/
namespace Go.Proofs.YthdmanadhbpogaaGreat
set_option maxHeartbeats 4000000
set_option maxRecDepth 100000
open Go.RowKit Fl
section
variable {w : World} {g a : Nat} {A : Option Addr} {n c : Nat} {l : List UInt8} {s : RS}
theorem num_short (hR : Rd 136 w g A n c l s) (hd : dec l s.at_ = .short) :
 Calls Tryz.prog 200 #[.pointer (some ⟨g, 0, none⟩), .int .i64 (s.at_ : Int)] w (RdPost 136 w g A n c l (.tuple #[.int .i64 0, .int .i64 (s.at_ : Int), .bool false]) (rFail s 5 l.length)) :=
 (wnumber g A n c l s s.at_ w hR hR.at_le).mono fun e w' h => by unfold NumPost at h; rw [hd] at h; exact h
theorem num_form (hR : Rd 136 w g A n c l s) (hd : dec l s.at_ = .form) :
 Calls Tryz.prog 200 #[.pointer (some ⟨g, 0, none⟩), .int .i64 (s.at_ : Int)] w (RdPost 136 w g A n c l (.tuple #[.int .i64 0, .int .i64 (s.at_ : Int), .bool false]) (rFail s 4 s.at_)) :=
 (wnumber g A n c l s s.at_ w hR hR.at_le).mono fun e w' h => by unfold NumPost at h; rw [hd] at h; exact h
theorem num_ok (hR : Rd 136 w g A n c l s) {k : Int} {next : Nat} (hd : dec l s.at_ = .ok k next) :
 Calls Tryz.prog 200 #[.pointer (some ⟨g, 0, none⟩), .int .i64 (s.at_ : Int)] w (RdPost 136 w g A n c l (.tuple #[.int .i64 k, .int .i64 (next : Int), .bool true]) s) :=
 (wnumber g A n c l s s.at_ w hR hR.at_le).mono fun e w' h => by unfold NumPost at h; rw [hd] at h; exact h
end
theorem wRInt (g : Nat) (A : Option Addr) (n c : Nat) (l : List UInt8) (s : RS) (w : World) (h : Rd 136 w g A n c l s) :
 Calls Tryz.prog 173 #[.pointer (some ⟨g, 0, none⟩)] w (RdPost 136 w g A n c l (.int .i64 (rInt l s).1) (rInt l s).2) := by
 obtain ⟨hgl, c0, c1, c2, c3, f0, f1, f2, f3⟩ := h.blk.four
 by_cases h1 : s.e = 0
 · have hb1 : (s.e != 0) = false := by simp [h1]
   cases hd : dec l s.at_ with
   | short =>
     have hs : rInt l s = (0, rFail s 5 l.length) := by unfold rInt; rw [if_neg (by simp [h1]), hd]
     rw [hs]
     have hc := num_short h hd
     clear hd hs h1
     go_enter Tryz.func173, Tryz.ntmps173
     go_wp2_with ((with_reducible refine hc.mono ?_); rintro e w1 ⟨rfl, hr1, hg1⟩)
     go_ret
     exact ⟨rfl, hr1, hg1⟩
   | form =>
     have hs : rInt l s = (0, rFail s 4 s.at_) := by unfold rInt; rw [if_neg (by simp [h1]), hd]
     rw [hs]
     have hc := num_form h hd
     clear hd hs h1
     go_enter Tryz.func173, Tryz.ntmps173
     go_wp2_with ((with_reducible refine hc.mono ?_); rintro e w1 ⟨rfl, hr1, hg1⟩)
     go_ret
     exact ⟨rfl, hr1, hg1⟩
   | ok k next =>
     have hs : rInt l s = (k, ⟨next, s.e, s.p⟩) := by unfold rInt; rw [if_neg (by simp [h1]), hd]
     rw [hs]
     have hc := num_ok h hd
     have hle := (dec_ok hd).2.2.2.1
     have hlen := h.len
     clear hd hs h1
     go_enter Tryz.func173, Tryz.ntmps173
     go_wp2_with ((with_reducible refine hc.mono ?_); rintro e w1 ⟨rfl, hr1, hg1⟩; obtain ⟨hgl', c0', c1', c2', c3', f0', f1', f2', f3'⟩ := hr1.blk.four)
     go_ret
     exact ⟨rfl, hr1.moved (by omega), hg1.trans (grown_set _ _ _ _)⟩
 · have hb1 : (s.e != 0) = true := by simp [h1]
   have hs : rInt l s = (0, s) := by unfold rInt; rw [if_pos h1]
   rw [hs]
   clear hs
   go_enter Tryz.func173, Tryz.ntmps173
   go_wp2
   go_ret
   exact ⟨rfl, h, World.grownBy.refl _ _⟩
end Go.Proofs.YthdmanadhbpogaaGreat
/- The walks of a reader's functions: NewReader, Flag, Float, Left, Fail, Place, Fault, End. -/
namespace Go.Proofs.YthdmanadhbpogaaGreat
set_option maxHeartbeats 4000000
open Go.RowKit Fl
theorem wRFault (g : Nat) (A : Option Addr) (n c : Nat) (l : List UInt8) (s : RS) (w : World) (h : Rd 136 w g A n c l s) :
 Calls Tryz.prog 34 #[.pointer (some ⟨g, 0, none⟩)] w fun e w' => e = .returned (.tuple #[.int .i64 s.e, .int .i64 (s.p : Int)]) ∧ ∃ q, w.drewN q = w' := by
 obtain ⟨hgl, c0, c1, c2, c3, f0, f1, f2, f3⟩ := h.blk.four
 go_enter Tryz.func34, Tryz.ntmps34
 go_wp2
 go_quiet (fail)
 go_wp2
 go_ret2
 exact ⟨rfl, _, rfl⟩
theorem wREnd (g : Nat) (A : Option Addr) (n c : Nat) (l : List UInt8) (s : RS) (w : World) (h : Rd 136 w g A n c l s) :
 Calls Tryz.prog 32 #[.pointer (some ⟨g, 0, none⟩)] w fun e w' => e = .returned (.tuple #[.int .i64 (rEnd l s).1, .int .i64 ((rEnd l s).2 : Int)]) ∧ ∃ q, w.drewN q = w' := by
 obtain ⟨hgl, c0, c1, c2, c3, f0, f1, f2, f3⟩ := h.blk.four
 have hlen := h.len
 have hsm := h.small
 have hal := h.at_le
 by_cases h1 : s.e = 0
 · have hb1 : (s.e == 0) = true := by simp [h1]
   by_cases h2 : s.at_ < n
   · have hs : rEnd l s = (6, s.at_) := by unfold rEnd; rw [if_pos ⟨h1, by omega⟩]
     rw [hs]
     have hb2 : decide (s.at_ < n) = true := by simp [h2]
     clear hs h1 hlen
     go_enter Tryz.func32, Tryz.ntmps32
     go_wp2
     go_quiet (fail)
     go_wp2
     go_quiet (fail)
     go_wp2
     go_ret2
     exact ⟨rfl, _, (World.drewN_drewN ..).symm⟩
   · have hs : rEnd l s = (s.e, s.p) := by unfold rEnd; rw [if_neg (by rintro ⟨_, h3⟩; omega)]
     rw [hs]
     have hb2 : decide (s.at_ < n) = false := by simp; omega
     clear hs h1 hlen
     go_enter Tryz.func32, Tryz.ntmps32
     go_wp2
     go_quiet (fail)
     go_wp2_with ((with_reducible refine (wRFault g _ _ _ _ _ _ (h.drewN _)).mono ?_); rintro e w2 ⟨rfl, q, rfl⟩)
     go_ret2
     exact ⟨rfl, _, rfl⟩
 · have hb1 : (s.e == 0) = false := by simp [h1]
   have hs : rEnd l s = (s.e, s.p) := by unfold rEnd; rw [if_neg (by rintro ⟨h3, _⟩; exact h1 h3)]
   rw [hs]
   clear hs
   go_enter Tryz.func32, Tryz.ntmps32
   go_wp2
   go_quiet (fail)
   go_wp2_with ((with_reducible refine (wRFault g _ _ _ _ _ _ (h.drewN _)).mono ?_); rintro e w2 ⟨rfl, q, rfl⟩)
   go_ret2
   exact ⟨rfl, _, rfl⟩
end Go.Proofs.YthdmanadhbpogaaGreat
/- The walks of a reader's functions: NewReader, Flag, Float. -/
namespace Go.Proofs.YthdmanadhbpogaaGreat
set_option maxHeartbeats 4000000
set_option maxRecDepth 100000
open Go.RowKit Fl
def NewRd (t : TypeId) (w : World) (l : List UInt8) : Ending → World → Prop := fun e w' =>
 ∃ A n c, e = .returned (.pointer (some ⟨w'.heap.size - 1, 0, none⟩)) ∧ 0 < w'.heap.size ∧ w.heap.size ≤ w'.heap.size - 1 ∧ Rd t w' (w'.heap.size - 1) A n c l ⟨0, 0, 0⟩ ∧ (∀ ad, A = some ad → w.heap.size ≤ ad.block) ∧ Below w.heap.size w w'
theorem wRNew (A : Option Addr) (n c : Nat) (l : List UInt8) (w : World) (h : Reads w w.heap.size 1 A n (bytesV l)) (hsm : n ≤ 1000000000000) :
 Calls Tryz.prog 30 #[.slice A n c] w (NewRd 136 w l) := by
 obtain ⟨i0, hi0, hz0, hz1, hz2⟩ := info_partsW u8_info
 have hlen : l.length = n := by have := h.1; simpa using this
 go_enter Tryz.func30, Tryz.ntmps30
 go_wp2_with (first
         | (at_builtin
            refine wpList_append_any _ rfl (.tmp 3) (.tmp 4) _ rfl w.heap.size 5 i0 _ 1 1 Tryz.underlying48 hi0 hz0 hz1 hz2 rfl (by omega) (.slice (some ⟨w.heap.size, 0, none⟩) 0 0) 0 [] (by rfl)
              (World.ownsRow_made w #[] 0 (Nat.le_refl _) (by unfold maxLen; omega) rfl) w.heap.size A n c (bytesV l) (by rfl) (h.alloc (Nat.le_refl _) _) (bytesV_one _) (by unfold maxLen; omega) (by omega) (by simp) ?_
            intro v1 w1 hown1 hg1 hat1
            simp only [Nat.zero_add, List.nil_append] at hown1
            obtain ⟨A1, c1, rfl, hn1, hc1⟩ := own_form hown1))
 have hb1 : Below w.heap.size w w1 := ((Below.refl _ _).alloc (Nat.le_refl _) _).grown hg1 (by simp) (by intro k hk; simp [Value.ownBlock] at hk; omega)
 go_ret
 have hz := hb1.size
 have hrd := Reads.of_own hown1
 refine ⟨A1, n, c1, by simp, by simp, by simpa using hz, ?_, ?_, hb1.alloc hz _⟩
 · refine ⟨Blk.new' _ _ (by simp), ?_, hlen, hsm, ?_, Nat.zero_le _, hn1, hc1⟩
   · simpa using (hrd.alloc (Nat.le_refl _) _).more (Nat.le_succ _)
   · intro ad e hn
     subst e
     have h5 := hown1.lt ad.block (by obtain ⟨g, cap, hv, _, _⟩ := hown1.form hn; injection hv with e1; injection e1 with e1; subst e1; rfl)
     have := h5.2
     simp; omega
 · intro ad e
   subst e
   rcases hown1.2 with ⟨hv, _⟩ | ⟨g, cap, cur, hv, hg, _⟩
   · cases hv
   · injection hv with e1; injection e1 with e1; subst e1; exact hg
end Go.Proofs.YthdmanadhbpogaaGreat
/- The walks of a coder that reads and meets no fault: numbers, numbers of transactions. -/
namespace Go.Proofs.YthdmanadhbpogaaGreat
set_option maxHeartbeats 1000000
set_option maxRecDepth 100000
set_option linter.unusedVariables false
open Go.RowKit Fl
attribute [local go_sem] run_store_float
structure CR (w : World) (g : Nat) (A : Option Addr) (n c : Nat) (l : List UInt8) (s : RS) (gc : Nat) : Prop where
 rd : Rd 136 w g A n c l s
 blk : Blk w gc 109 #[.pointer none, .pointer (some ⟨g, 0, none⟩)]
 ne : gc ≠ g
 ad : ∀ a, A = some a → 0 < n → a.block ≠ gc
structure Two2 (w w' : World) (g b : Nat) : Prop where
 os : w'.os = w.os
 tape : w'.tape = w.tape
 output : w'.output = w.output
 size : w.heap.size ≤ w'.heap.size
 block : ∀ k, k < w.heap.size → k ≠ g → k ≠ b → w'.heap[k]? = w.heap[k]?
theorem Two2.trans {w w1 w2 : World} {g b : Nat} (h : Two2 w w1 g b) (k : Two2 w1 w2 g b) : Two2 w w2 g b :=
 ⟨k.os.trans h.os, k.tape.trans h.tape, k.output.trans h.output, Nat.le_trans h.size k.size, fun i hi h1 h2 => (k.block i (Nat.lt_of_lt_of_le hi h.size) h1 h2).trans (h.block i hi h1 h2)⟩
theorem Two2.below {w w' : World} {g b B : Nat} (h : Two2 w w' g b) (hg : B ≤ g) (hb : B ≤ b) (hB : B ≤ w.heap.size) : Below B w w' :=
 ⟨h.os, h.tape, h.output, h.size, fun k hk => h.block k (by omega) (by omega) (by omega)⟩
theorem Two2.ofBelow {w w' : World} (g b : Nat) (h : Below w.heap.size w w') : Two2 w w' g b := ⟨h.os, h.tape, h.output, h.size, fun k hk _ _ => h.block k hk⟩
theorem CR.below {w w' : World} {g gc : Nat} {A : Option Addr} {n c : Nat} {l : List UInt8} {s : RS} (h : CR w g A n c l s gc) (hb : Below w.heap.size w w') : CR w' g A n c l s gc :=
 ⟨h.rd.below hb, h.blk.below hb h.blk.lt, h.ne, h.ad⟩
theorem look_ok (w : World) (g : Nat) (A : Option Addr) (n c : Nat) (l : List UInt8) (s : RS) (gc : Nat) (h : CR w g A n c l s gc) (hs : s.e = 0) :
 Calls Tryz.prog 174 #[.pointer (some ⟨gc, 0, none⟩)] w fun e w' => e = .returned (.tuple #[]) ∧ ∃ q, w.drewN q = w' := by
 have c1 : w.cell? ⟨gc, 1, none⟩ = some (.pointer (some ⟨g, 0, none⟩)) := h.blk.cell 1
 have hF := wRFault g A n c l s w h.rd
 rw [hs] at hF
 go_enter Tryz.func174, Tryz.ntmps174
 go_wp2_with ((with_reducible refine hF.mono ?_); rintro e w1 ⟨rfl, q, rfl⟩)
 go_end0
 exact ⟨rfl, q, rfl⟩
theorem rcInt_ok (w : World) (g : Nat) (A : Option Addr) (n c : Nat) (l : List UInt8) (s s' : RS) (v : Int) (gc b i : Nat) (t : TypeId) (cs : Array Value) (old : Int) (h : CR w g A n c l s gc) (hb : Blk w b t cs) (ho : cs[i]? = some (.int .i64 old))
 (h1 : b ≠ g) (h2 : b ≠ gc) (h3 : ∀ a, A = some a → 0 < n → a.block ≠ b) (hr : rInt l s = (v, s')) (hs : s'.e = 0) :
 Calls Tryz.prog 121 #[.pointer (some ⟨gc, 0, none⟩), .pointer (some ⟨b, i, none⟩)] w fun e w' => e = .returned (.tuple #[]) ∧ CR w' g A n c l s' gc ∧ Blk w' b t (cs.setIfInBounds i (.int .i64 v)) ∧ Two2 w w' g b := by
 have c0 : w.cell? ⟨gc, 0, none⟩ = some (.pointer none) := h.blk.cell 0
 have c1 : w.cell? ⟨gc, 1, none⟩ = some (.pointer (some ⟨g, 0, none⟩)) := h.blk.cell 1
 have hI := wRInt g A n c l s w h.rd
 rw [hr] at hI
 go_enter Tryz.func121, Tryz.ntmps121
 go_wp2_with fail
 refine hI.mono ?_
 rintro e w1 ⟨rfl, hrd, hg⟩
 have k1 : Blk w1 b t cs := hb.grown hg (by intro e; exact h1 (by injection e))
 have z1 : w1.cell? ⟨b, i, none⟩ = some (.int .i64 old) := (k1.cell i).trans ho
 have f1 := k1.frozen i
 have hgc : Blk w1 gc 109 #[.pointer none, .pointer (some ⟨g, 0, none⟩)] := h.blk.grown hg (by intro e; exact h.ne (by injection e))
 have hgs : w1.grownBy (w1.setCell ⟨b, i, none⟩ (.int .i64 v)) (some b) := grown_set _ _ _ _
 have hc2 : CR (w1.setCell ⟨b, i, none⟩ (.int .i64 v)) g A n c l s' gc := ⟨hrd.far hgs (fun e => h1 e.symm) h3, hgc.far (p := ⟨b, i, none⟩) (fun e => h2 e.symm) _, h.ne, h.ad⟩
 have k2 := k1.set_ i (.int .i64 v)
 go_wp2_with fail
 refine (look_ok _ g A n c l s' gc hc2 hs).mono ?_
 rintro e w2 ⟨rfl, q, rfl⟩
 go_wp2
 go_end0
 have hD : Below (w1.setCell ⟨b, i, none⟩ (.int .i64 v)).heap.size (w1.setCell ⟨b, i, none⟩ (.int .i64 v)) ((w1.setCell ⟨b, i, none⟩ (.int .i64 v)).drewN q) := belowN _
 refine ⟨rfl, hc2.below hD, k2.below hD k2.lt, ?_⟩
 have t1 : Two2 w w1 g b := ⟨hg.os, hg.tape, hg.output, hg.size, fun k hk h4 _ => hg.block k hk (by intro e; exact h4 (by injection e))⟩
 have t2 : Two2 w1 (w1.setCell ⟨b, i, none⟩ (.int .i64 v)) g b := ⟨hgs.os, hgs.tape, hgs.output, hgs.size, fun k hk _ h5 => hgs.block k hk (by intro e; exact h5 (by injection e))⟩
 exact (t1.trans t2).trans (Two2.ofBelow g b hD)
theorem rcTxn_ok (w : World) (g : Nat) (A : Option Addr) (n c : Nat) (l : List UInt8) (s s1 s2 s3 : RS) (v1 v2 v3 : Int) (gc b i : Nat) (t : TypeId) (cs : Array Value) (o1 o2 o3 : Int) (h : CR w g A n c l s gc) (hb : Blk w b t cs)
 (ho1 : cs[i]? = some (.int .i64 o1)) (ho2 : cs[i + 1]? = some (.int .i64 o2)) (ho3 : cs[i + 2]? = some (.int .i64 o3))
 (h1 : b ≠ g) (h2 : b ≠ gc) (h3 : ∀ a, A = some a → 0 < n → a.block ≠ b) (hr1 : rInt l s = (v1, s1)) (hs1 : s1.e = 0) (hr2 : rInt l s1 = (v2, s2)) (hs2 : s2.e = 0) (hr3 : rInt l s2 = (v3, s3)) (hs3 : s3.e = 0) :
 Calls Tryz.prog 124 #[.pointer (some ⟨gc, 0, none⟩), .pointer (some ⟨b, i, none⟩)] w fun e w' => e = .returned (.tuple #[]) ∧ CR w' g A n c l s3 gc ∧ Blk w' b t (((cs.setIfInBounds i (.int .i64 v1)).setIfInBounds (i + 1) (.int .i64 v2)).setIfInBounds (i + 2) (.int .i64 v3)) ∧ Two2 w w' g b := by
 go_enter Tryz.func124, Tryz.ntmps124
 go_wp2_with fail
 refine (rcInt_ok w g A n c l s s1 v1 gc b i t cs o1 h hb ho1 h1 h2 h3 hr1 hs1).mono ?_
 rintro e w1 ⟨rfl, c1, k1, t1⟩
 go_wp2_with fail
 refine (rcInt_ok w1 g A n c l s1 s2 v2 gc b (i + 1) t _ o2 c1 k1 (by rw [Array.getElem?_setIfInBounds_ne (by omega)]; exact ho2) h1 h2 h3 hr2 hs2).mono ?_
 rintro e w2 ⟨rfl, c2, k2, t2⟩
 go_wp2_with fail
 refine (rcInt_ok w2 g A n c l s2 s3 v3 gc b (i + 2) t _ o3 c2 k2 (by rw [Array.getElem?_setIfInBounds_ne (by omega), Array.getElem?_setIfInBounds_ne (by omega)]; exact ho3) h1 h2 h3 hr3 hs3).mono ?_
 rintro e w3 ⟨rfl, c3, k3, t3⟩
 go_wp2
 go_end0
 exact ⟨rfl, c3, k3, (t1.trans t2).trans t3⟩
end Go.Proofs.YthdmanadhbpogaaGreat
/- The walks of the reference's writing functions, of Bytes and CopyBytes. -/
namespace Go.Proofs.YthdmanadhbpogaaGreat
set_option maxHeartbeats 4000000
set_option maxRecDepth 100000
open Go.RowKit Fl
theorem sbytes (w : World) {B B' : Nat} {A A' : Option Addr} {n n' c c' : Nat} {a b : List UInt8} (ha : Reads w B 1 A n (bytesV a)) (hb : Reads w B' 1 A' n' (bytesV b)) :
 Calls Tryz.prog 21 #[.slice A n c, .slice A' n' c'] w fun e w' => e = .returned (.bool (a == b)) ∧ w = w' := by
 have h1 := run_conv_reads (P := Tryz.prog) w 48 9 5 Tryz.underlying48 Tryz.underlying5 Tryz.underlying9 (c := c) ha
 have h2 := run_conv_reads (P := Tryz.prog) w 48 9 5 Tryz.underlying48 Tryz.underlying5 Tryz.underlying9 (c := c') hb
 go_enter Tryz.func21, Tryz.ntmps21
 go_wp2
 go_ret
 exact ⟨rfl, rfl⟩
theorem xbits (a : Nat) (w : World) :
 Calls Tryz.prog 184 #[.float .f64 a] w fun e w' => e = .returned (.int .u64 (canonB a)) ∧ w = w' := by
 by_cases h : dnan a = true
 · have e : canonB a = 9221120237041090560 := by simp [canonB, h]
   have h' : (FloatKind.f64.format.order a a != some Ordering.eq) = true := h
   rw [e]
   clear e h
   go_enter Tryz.func184, Tryz.ntmps184
   go_wp2
   go_ret
   exact ⟨rfl, rfl⟩
 · have e : canonB a = a := by simp [canonB, h]
   have h' : (FloatKind.f64.format.order a a != some Ordering.eq) = false := by simpa [dnan] using h
   rw [e]
   clear e h
   go_enter Tryz.func184, Tryz.ntmps184
   go_wp2
   go_ret
   exact ⟨rfl, rfl⟩
def RowRel (w : World) (bs : List UInt8) (v : Value) (wr : World) : Prop := wr.ownsRow w.heap.size 5 1 v bs.length (bytesV bs) ∧ Below w.heap.size w wr
theorem RowRel.start (w : World) : RowRel w [] (.slice none 0 0) w := ⟨World.ownsRow_nil _ _ _ _, Below.refl _ _⟩
theorem RowRel.post {w wr : World} {bs : List UInt8} {v : Value} (h : RowRel w bs v wr) : RowPost w bs (.returned v) wr := by
 obtain ⟨A, c, rfl, h1, h2⟩ := own_form h.1
 exact ⟨A, c, rfl, h1, h2, h.1, h.2⟩
theorem RowRel.push {w wr X w1 : World} {bs more : List UInt8} {v v1 : Value} (h : RowRel w bs v wr) (hX : Below wr.heap.size wr X)
 (hown : w1.ownsRow w.heap.size 5 1 v1 (bs.length + more.length) (bytesV bs ++ bytesV more)) (hg : X.grownBy w1 v.ownBlock) : RowRel w (bs ++ more) v1 w1 := by
 refine ⟨by rw [List.length_append, bytesV, List.map_append]; exact hown, ?_⟩
 refine Below.grown (h.2.trans (hX.mono h.2.size)) hg (Nat.le_trans h.2.size hX.size) fun k hk => (h.1.lt k hk).1
theorem big_byte (k : Nat) : bytesV [(k % 128 + 128).toUInt8] = [.int .u8 ((k : Int) % 128 + 128)] := by
 show [Value.int .u8 (((k % 128 + 128) % 256 : Nat) : Int)] = _
 congr 2
 omega
def XIntRel (w : World) (n : Int) (u out : Value) (wr : World) : Prop :=
 ∃ (k : Nat) (pre : List UInt8), u = .int .u64 (k : Int) ∧ k < 18446744073709551616 ∧ pre ++ encU k = encI n ∧ RowRel w pre out wr
theorem xint (n : Int) (w : World) (hn1 : -9223372036854775808 ≤ n) (hn2 : n ≤ 9223372036854775807) :
 Calls Tryz.prog 62 #[.int .i64 n] w (RowPost w (encI n)) := by
 obtain ⟨i0, hi0, hz0, hz1, hz2⟩ := info_partsW u8_info
 have hzl := zig_lt hn1 hn2
 have hel := encI_len hn1 hn2
 have hcase : n < 0 ∨ 0 ≤ n := by omega
 rcases hcase with hneg | hneg
 all_goals (
  go_enter Tryz.func62, Tryz.ntmps62
  go_wp2
  go_loopw [3, 4] (fun u out wr => XIntRel w n u out wr) (fun u _ _ => (intOf u).toNat)
  case atStart =>
   refine ⟨zig n, [], ?_, hzl, rfl, RowRel.start w⟩
   first
        | rw [zig_neg hneg hn1]
        | (have e := zig_pos hneg hn2
           rw [show IntKind.u64.wrap n = n from by rw [IntKind.wrap_u64]; omega, show IntKind.u64.wrap (n * 2) = n * 2 from by rw [IntKind.wrap_u64]; omega] at e
           rw [e])
  case round =>
   obtain ⟨k, pre, rfl, hk, henc, hrow⟩ := hrel
   obtain ⟨A1, c1, rfl, hA1, hA2⟩ := own_form hrow.1
   have hzz := hrow.2.size
   have hpre : pre.length + (encU k).length = (encI n).length := by rw [← henc, List.length_append]
   by_cases hbig : k < 128
   · have h1 : encU k = [k.toUInt8] := encU_small hbig
     go_wp2_with (first
      | (at_builtin
         refine wpList_append_any _ rfl (.tmp 23) (.tmp 26) _ rfl w.heap.size 5 i0 _ 1 1 Tryz.underlying48 hi0 hz0 hz1 hz2 rfl (by omega) (.slice A1 pre.length c1) _ (bytesV pre) (by rfl) (hrow.1.alloc _) (wr.heap.size + 1) (some ⟨wr.heap.size, 0, none⟩) 1 1 (bytesV [k.toUInt8]) (by rfl)
             (by rw [low_byte k hbig]; exact reads_new wr 5 _ 1 rfl) (bytesV_one _) (by unfold maxLen; omega) (by omega) (by simp; omega) ?_
         intro v2 w1 hown1 hg1 hat1))
     go_ret
     rw [← henc, h1]
     exact (hrow.push ((Below.refl _ _).alloc (Nat.le_refl _) _) hown1 hg1).post
   · have h1 := encU_big hbig
     go_wp2_with (first
      | (at_builtin
         refine wpList_append_any _ rfl (.tmp 14) (.tmp 19) _ rfl w.heap.size 5 i0 _ 1 1 Tryz.underlying48 hi0 hz0 hz1 hz2 rfl (by omega) (.slice A1 pre.length c1) _ (bytesV pre) (by rfl) (hrow.1.alloc _) (wr.heap.size + 1) (some ⟨wr.heap.size, 0, none⟩) 1 1 (bytesV [(k % 128 + 128).toUInt8]) (by rfl)
             (by rw [big_byte k]; exact reads_new wr 5 _ 1 rfl) (bytesV_one _) (by unfold maxLen; omega) (by omega) (by simp; omega) ?_
         intro v2 w1 hown1 hg1 hat1))
     go_roundw
     case rel =>
      refine ⟨k / 128, pre ++ [(k % 128 + 128).toUInt8], by go_num, by omega, ?_, hrow.push ((Below.refl _ _).alloc (Nat.le_refl _) _) hown1 hg1⟩
      rw [List.append_assoc, ← henc, h1]; rfl
     case measure => simp [intOf]; omega)
theorem xflag (b : Bool) (w : World) : Calls Tryz.prog 133 #[.bool b] w (RowPost w (encB b)) := by
 cases b
 all_goals (
  go_enter Tryz.func133, Tryz.ntmps133
  go_wp2
  go_ret)
 · exact ⟨some ⟨w.heap.size, 0, none⟩, 1, rfl, Nat.le_refl _, by unfold maxLen; omega, World.ownsRow_lit w #[.int .u8 0] 1 (Nat.le_refl _) (by unfold maxLen; omega) rfl, (Below.refl _ _).alloc (Nat.le_refl _) _⟩
 · exact ⟨some ⟨w.heap.size, 0, none⟩, 1, rfl, Nat.le_refl _, by unfold maxLen; omega, World.ownsRow_lit w #[.int .u8 1] 1 (Nat.le_refl _) (by unfold maxLen; omega) rfl, (Below.refl _ _).alloc (Nat.le_refl _) _⟩
def XFloatRel (w : World) (x : Nat) (u out i : Value) (wr : World) : Prop :=
 ∃ (j k : Nat) (pre : List UInt8), j ≤ 8 ∧ i = .int .i64 (j : Int) ∧ u = .int .u64 (k : Int) ∧ k < 18446744073709551616 ∧ pre.length = j ∧ pre ++ leW (8 - j) k = leW 8 x ∧ RowRel w pre out wr
theorem xfloat (a : Nat) (w : World) (ha : a < 18446744073709551616) : Calls Tryz.prog 134 #[.float .f64 a] w (RowPost w (leW 8 (canonB a))) := by
 obtain ⟨i0, hi0, hz0, hz1, hz2⟩ := info_partsW u8_info
 have hcan : canonB a < 18446744073709551616 := canonB_lt ha
 go_enter Tryz.func134, Tryz.ntmps134
 go_wp2_with ((with_reducible refine (xbits _ _).mono ?_); rintro e w' ⟨rfl, rfl⟩)
 go_loopw [3, 4, 5] (fun u out i wr => XFloatRel w (canonB a) u out i wr) (fun _ _ i _ => 8 - (intOf i).toNat)
 case atStart => exact ⟨0, _, [], by omega, rfl, rfl, hcan, rfl, rfl, RowRel.start w⟩
 case round =>
  obtain ⟨j, k, pre, hj, rfl, rfl, hk, hpl, henc, hrow⟩ := hrel
  have hl8 : pre.length ≤ 8 := by omega
  have hzz := hrow.2.size
  have HP := Lib.hid hpl
  clear hpl
  obtain ⟨A1, c1, rfl, hA1, hA2⟩ := own_form hrow.1
  by_cases hlt : j < 8
  · go_wp2_with (first
     | (at_builtin
        refine wpList_append_any _ rfl (.tmp 12) (.tmp 16) _ rfl w.heap.size 5 i0 _ 1 1 Tryz.underlying48 hi0 hz0 hz1 hz2 rfl (by omega) (.slice A1 pre.length c1) _ (bytesV pre) (by rfl) (hrow.1.alloc _) (wr.heap.size + 1) (some ⟨wr.heap.size, 0, none⟩) 1 1 (bytesV [(k % 256).toUInt8]) (by rfl)
               (by rw [mod_byte k]; exact reads_new wr 5 _ 1 rfl) (bytesV_one _) (by unfold maxLen; omega) (by omega) (by simp; omega) ?_
        intro v2 w1 hown1 hg1 hat1))
    go_roundw
    case rel =>
        refine ⟨j + 1, k / 256, pre ++ [(k % 256).toUInt8], by omega, by go_num, by go_num, by omega, by simp [HP.out], ?_, hrow.push ((Below.refl _ _).alloc (Nat.le_refl _) _) hown1 hg1⟩
        rw [List.append_assoc, ← henc, show 8 - j = (8 - (j + 1)) + 1 from by omega]; rfl
    case measure => simp [intOf]; omega
  · obtain rfl : j = 8 := by omega
    have hen : pre = leW 8 (canonB a) := by simpa [leW] using henc
    have HE := Lib.hid hen
    clear hen henc
    go_wp2
    go_ret
    rw [← HE.out]
    exact hrow.post
theorem xtext (s : ByteArray) (w : World) (hs : s.size ≤ 1000000000000) : Calls Tryz.prog 75 #[.string s] w (RowPost w (encT s.data.toList)) := by
 obtain ⟨i0, hi0, hz0, hz1, hz2⟩ := info_partsW u8_info
 have hel : (encI (s.size : Int)).length ≤ 10 := encI_len (by omega) (by omega)
 go_enter Tryz.func75, Tryz.ntmps75
 go_wp2_with (first
         | ((with_reducible refine (xint _ _ (by omega) (by omega)).mono ?_); rintro e w1 ⟨A1, c1, rfl, hA1, hA2, hown, hb⟩)
         | (at_builtin
            refine wpList_append_str _ rfl (.tmp 5) (.tmp 6) _ _ rfl w.heap.size 5 i0 Tryz.underlying48 Tryz.underlying9 hi0 hz0 hz1 hz2 (.slice A1 (encI (s.size : Int)).length c1) _ (bytesV (encI (s.size : Int))) (by rfl) hown s (by rfl)
              (by unfold maxLen; omega) (by omega) hb.size ?_
            intro v2 w2 hown1 hg1 hat1))
 have hsz : s.size = s.data.toList.length := (Array.length_toList (xs := s.data)).symm
 have hr := RowRel.push (w := w) (more := s.data.toList) ⟨hown, hb⟩ (Below.refl _ _) (by rw [← hsz]; exact hown1) hg1
 go_ret
 unfold encT
 rw [← hsz]
 exact hr.post
end Go.Proofs.YthdmanadhbpogaaGreat
