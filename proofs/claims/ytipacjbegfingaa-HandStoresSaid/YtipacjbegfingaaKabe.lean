/- The walk of the document's put. -/
import Derived.Test.YtipacjbegfingaaKaba
namespace Go.Proofs.Ytipacjbegfingaa
set_option linter.unusedVariables false
open Go.RowKit Fl
attribute [local go_sem] run_store_float

theorem Reads.monoC {w w' : World} {B size n : Nat} {A : Option Addr} {xs : List Value} (h : Reads w B size A n xs) (hk : ∀ p u, p.block < B → w.cell? p = some u → w'.cell? p = some u) : Reads w' B size A n xs :=
  ⟨h.1, fun hn => by
    obtain ⟨ad, e, hb, hc⟩ := h.2 hn
    exact ⟨ad, e, hb, fun j u hu => hk _ _ (by rw [block_of_add]; exact hb) (hc j u hu)⟩⟩
theorem pn_cells_one {w : World} {B : Nat} {cs : List Value} {p : Pn} (h : PnRel w B cs p) : ∀ u ∈ cs, u.oneCell' = true := by
  obtain ⟨r, q, rfl, -, -, ⟨A1, n1, c1, rfl, -⟩, ⟨A2, n2, c2, rfl, -⟩⟩ := h
  exact pn_one p _ _ _ _ _ _
theorem drop_flat (k : Nat) : ∀ (css : List (List Value)) (m : Nat), (∀ cs ∈ css, cs.length = k) → css.flatten.drop (m * k) = (css.drop m).flatten := by
  intro css
  induction css with
  | nil => intro m _; simp
  | cons cs css ih =>
    intro m h
    cases m with
    | zero => simp
    | succ m =>
      have h0 := h cs (List.mem_cons_self ..)
      have e : (m + 1) * k = cs.length + m * k := by rw [Nat.succ_mul, h0]; omega
      rw [List.flatten_cons, e, List.drop_append, List.drop_of_length_le (by omega), List.nil_append, Nat.add_sub_cancel_left, List.drop_succ_cons]
      exact ih m fun c hc => h c (List.mem_cons_of_mem _ hc)
theorem RSt.put_end {w w9 : World} {g : Nat} {B1 B2 A9 : Option Addr} {m1 d1 m2 d2 n9 q9 : Nat} {L : Sp} {Hl : List Hs} {Pl l9 : List Pn} (h : RSt w g B1 m1 d1 B2 m2 d2 L Hl Pl) (hb : Below w.heap.size w w9)
    (hblk : Blk w9 g 86 #[.slice B1 m1 d1, .slice B2 m2 d2, .int .i64 L.w, .int .i64 L.l, .int .i64 L.n]) (hr : RowR PnRel 47 8 (w.heap.size + 1) (gB g w9.heap.size (.slice A9 n9 q9)) w9 (.slice A9 n9 q9) l9) :
    RSt (w9.setCell ⟨g, 1, none⟩ (.slice A9 n9 q9)) g B1 m1 d1 A9 n9 q9 L Hl l9 ∧ w.grownBy (w9.setCell ⟨g, 1, none⟩ (.slice A9 n9 q9)) (some g) := by
  have hs : (w9.setCell ⟨g, 1, none⟩ (.slice A9 n9 q9)).heap.size = w9.heap.size := by simp [World.setCell]
  have hbl : ∀ k, k ≠ g → (w9.setCell ⟨g, 1, none⟩ (.slice A9 n9 q9)).heap[k]? = w9.heap[k]? := fun k hk => Below.heap_setCell _ _ _ _ hk
  have hg : g < w.heap.size := h.blk.lt
  have hcell : ∀ p : Addr, (only (nb g) (w9.setCell ⟨g, 1, none⟩ (.slice A9 n9 q9))).cell? p = (only (nb g) w9).cell? p := fun p => by
    cases hn : nb g p.block
    · rw [only_cell_out hn, only_cell_out hn]
    · rw [only_cell_in hn, only_cell_in hn]; exact World.cell?_of_block (hbl _ (nb_iff.1 hn))
  have hcell2 : ∀ p : Addr, p.block < w.heap.size → (only (nb g) (w9.setCell ⟨g, 1, none⟩ (.slice A9 n9 q9))).cell? p = (only (nb g) w).cell? p := fun p hp => by
    rw [hcell]
    cases hn : nb g p.block
    · rw [only_cell_out hn, only_cell_out hn]
    · rw [only_cell_in hn, only_cell_in hn]; exact hb.cell hp
  obtain ⟨A, n, c, e, h1, h2, h3⟩ := hr.held (K' := nb g) PnRel.mono (by omega) (fun k hk => nb_iff.2 (gB_iff.1 hk).2.1) (fun k hk => nb_iff.2 (by have := (hr.lt k hk).1; omega))
  injection e with e1 e2 e3
  subst e1 e2 e3
  refine ⟨⟨hblk.set_ 1 _, (h.hs.keep HsRel.kept hcell2).more HsRel.kept (by rw [hs]; exact hb.size), ?_, h1, h2, h.m1, Nat.le_trans h1 h2⟩, ?_⟩
  · rw [hs]; exact h3.keep PnRel.kept fun p _ => hcell p
  · exact ⟨hb.os, hb.tape, hb.output, by rw [hs]; exact hb.size, fun k hk hne => by rw [hbl k (fun e => hne (by rw [e]))]; exact hb.block k hk⟩
end Go.Proofs.Ytipacjbegfingaa
