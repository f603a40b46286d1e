/- Plain: a record that weighs no more than most is short, and so are its bytes. -/
import Derived.Test.YthdmanadhbpogaaGreatCaad
import Derived.Test.YthdmanadhbpogaaGreatCaae
import Derived.Test.YthdmanadhbpogaaGreatCaai
import Derived.Test.YthdmanadhbpogaaGreatCabj
import Derived.Test.YthdmanadhbpogaaGreatCaajx
namespace Go.Proofs.YthdmanadhbpogaaGreat
set_option linter.unusedVariables false
open Go.RowKit Fl
theorem sum_nn {α : Type} (wt : α → Int) (hw : ∀ a, 0 ≤ wt a) (l : List α) : 0 ≤ (l.map wt).sum := by
 induction l with
 | nil => simp
 | cons a l ih => have := hw a; simp only [List.map_cons, List.sum_cons]; omega
theorem weighG_gain {α : Type} {f : α → Int → Int} {most : Int} (wt : α → Int) (hw : ∀ a, 0 ≤ wt a) (hf : ∀ a n, 0 ≤ n → n ≤ most → 0 ≤ f a n ∧ (f a n ≤ most → n + wt a ≤ f a n)) :
 ∀ (l : List α) (n : Int), 0 ≤ n → weighG f most n l ≤ most → n + (l.map wt).sum ≤ weighG f most n l := by
 intro l
 induction l with
 | nil => intro n _ _; simp [weighG]
 | cons a l ih =>
   intro n h0 h
   by_cases hn : n ≤ most
   · have e : weighG f most n (a :: l) = weighG f most (f a n) l := by show (if _ then _ else _) = _; rw [if_pos hn]
     rw [e] at h ⊢
     obtain ⟨h1, h2⟩ := hf a n h0 hn
     have h3 := ih _ h1 h
     have h4 := sum_nn wt hw l
     have h5 := h2 (by omega)
     simp only [List.map_cons, List.sum_cons]
     omega
   · rw [weighG_stop _ (by omega)] at h; omega
def wtW (a : Wt) : Int := 1 + (a.key.size : Int) + (a.v.t.size : Int)
def wtT (a : ByteArray) : Int := 1 + (a.size : Int)
def wtV (a : Vn) : Int := 1 + (a.v.t.size : Int)
def wtH (h : Hs) : Int := 1 + (h.key.size : Int) + (h.vs.map wtV).sum
def wtP (p : Pn) : Int := 1 + (p.r.map wtT).sum + (p.w.map wtW).sum
theorem wtW_nn (a : Wt) : 0 ≤ wtW a := by unfold wtW; omega
theorem wtT_nn (a : ByteArray) : 0 ≤ wtT a := by unfold wtT; omega
theorem wtV_nn (a : Vn) : 0 ≤ wtV a := by unfold wtV; omega
theorem wtH_nn (a : Hs) : 0 ≤ wtH a := by unfold wtH; have := sum_nn wtV wtV_nn a.vs; omega
theorem wtP_nn (a : Pn) : 0 ≤ wtP a := by unfold wtP; have := sum_nn wtT wtT_nn a.r; have := sum_nn wtW wtW_nn a.w; omega
section
variable {most : Int} (hm : 0 ≤ most)
include hm
theorem weighW_gain : ∀ (l : List Wt) (n : Int), 0 ≤ n → weighW most n l ≤ most → n + (l.map wtW).sum ≤ weighW most n l := by
 intro l
 induction l with
 | nil => intro n _ _; simp [weighW]
 | cons a l ih =>
   intro n h0 h
   by_cases hn : n ≤ most
   · have e : weighW most n (a :: l) = weighW most (stepW most n a) l := by show (if _ then _ else _) = _; rw [if_pos hn]
     rw [e] at h ⊢
     have h3 := ih _ (stepW_range a hm h0).1 h
     have h4 := sum_nn wtW wtW_nn l
     have h5 : stepW most n a = n + wtW a := by
        have : stepW most n a ≤ most := by omega
        unfold stepW fewI at this
        unfold stepW fewI wtW
        split at this <;> split <;> omega
     simp only [List.map_cons, List.sum_cons]
     omega
   · rw [weighW_stop _ (by omega)] at h; omega
theorem weighT_gain (l : List ByteArray) (h : weighT most l ≤ most) : (l.map wtT).sum ≤ weighT most l := by
 have := weighG_gain (f := stepT most) (most := most) wtT wtT_nn (fun a n h0 _ => ⟨(stepT_range a hm h0).1, fun h => by
  have := (fewI_range (n := n) (more := 1 + (a.size : Int)) (most := most) h0 (by omega) hm).2.2 h
  show n + (1 + (a.size : Int)) ≤ fewI n (1 + (a.size : Int)) most
  omega⟩) l 0 (by omega) h
 unfold weighT; omega
theorem stepH_gain (a : Hs) (n : Int) (h0 : 0 ≤ n) (h : stepH most a n ≤ most) : n + wtH a ≤ stepH most a n := by
 have h2 := fewI_range (n := n) (more := 1 + (a.key.size : Int)) (most := most) h0 (by omega) hm
 have h3 := weighG_gain (f := stepV most) (most := most) wtV wtV_nn (fun a n h0 _ => ⟨(stepV_range a hm h0).1, fun h => by
  have := (fewI_range (n := n) (more := 1 + (a.v.t.size : Int)) (most := most) h0 (by omega) hm).2.2 h
  show n + (1 + (a.v.t.size : Int)) ≤ fewI n (1 + (a.v.t.size : Int)) most
  omega⟩) a.vs _ h2.1 h
 have h4 := sum_nn wtV wtV_nn a.vs
 have h5 : stepH most a n = weighG (stepV most) most (fewI n (1 + (a.key.size : Int)) most) a.vs := rfl
 have h6 := h2.2.2 (by omega)
 unfold wtH
 omega
theorem weighH_gain (l : List Hs) (h : weighH most l ≤ most) : (l.map wtH).sum ≤ weighH most l := by
 have := weighG_gain (f := stepH most) (most := most) wtH wtH_nn (fun a n h0 _ => ⟨(stepH_range a hm h0).1, fun h => stepH_gain hm a n h0 h⟩) l 0 (by omega) h
 unfold weighH; omega
theorem stepP_gain (p : Pn) (n : Int) (h0 : 0 ≤ n) (h : stepP most p n ≤ most) : n + wtP p ≤ stepP most p n := by
 have h1 := weighT_range p.r hm
 have h2 := weighW_range p.w 0 hm (by omega) (by omega)
 have h3 := fewI_range (n := n) (more := 1 + weighT most p.r) (most := most) h0 (by omega) hm
 have h4 := fewI_range (n := fewI n (1 + weighT most p.r) most) (more := weighW most 0 p.w) (most := most) h3.1 h2.1 hm
 have e : stepP most p n = fewI (fewI n (1 + weighT most p.r) most) (weighW most 0 p.w) most := rfl
 have h5 := h4.2.2 (by omega)
 have h6 := h3.2.2 (by omega)
 have h7 := weighT_gain hm p.r (by omega)
 have h8 := weighW_gain hm p.w 0 (by omega) (by omega)
 unfold wtP
 omega
theorem weighP_gain (l : List Pn) (h : weighP most l ≤ most) : (l.map wtP).sum ≤ weighP most l := by
 have := weighG_gain (f := stepP most) (most := most) wtP wtP_nn (fun a n h0 _ => ⟨(stepP_range a hm h0).1, fun h => stepP_gain hm a n h0 h⟩) l 0 (by omega) h
 unfold weighP; omega
theorem weighS_gain (s : Stt) (h : weighS most s ≤ most) : (s.h.map wtH).sum + (s.p.map wtP).sum ≤ weighS most s := by
 have h1 := weighH_range s.h hm
 have h2 := weighP_range s.p hm
 have e : weighS most s = fewI (weighH most s.h) (weighP most s.p) most := rfl
 have h3 := (fewI_range (n := weighH most s.h) (more := weighP most s.p) (most := most) h1.1 h2.1 hm).2.2 (by omega)
 have h4 := weighH_gain hm s.h (by omega)
 have h5 := weighP_gain hm s.p (by omega)
 omega
theorem weighRec_gain (r : Rc) (h : weighRec most r ≤ most) : 1 + (r.rd.map wtT).sum + (r.wr.map wtW).sum + (r.ps.length : Int) + (r.pr.map wtW).sum + (r.st.h.map wtH).sum + (r.st.p.map wtP).sum ≤ most ∧ weighS most r.st ≤ most := by
 have hT := weighT_range r.rd hm
 have hW := weighW_range r.wr 0 hm (by omega) (by omega)
 have h1 := fewI_range (n := weighT most r.rd) (more := weighW most 0 r.wr) (most := most) hT.1 hW.1 hm
 have e1 : weigh1 most r = fewI (weighT most r.rd) (weighW most 0 r.wr) most := rfl
 have h2 := fewI_range (n := weigh1 most r) (more := min (r.ps.length : Int) (most + 1)) (most := most) (by omega) (by omega) hm
 have e2 : weigh2 most r = fewI (weigh1 most r) (min (r.ps.length : Int) (most + 1)) most := rfl
 have h3 := weighW_range r.pr (weigh2 most r) hm (by omega) (by omega)
 have hS := weighS_range r.st hm
 have h4 := fewI_range (n := weighW most (weigh2 most r) r.pr + 1) (more := weighS most r.st) (most := most) (by omega) hS.1 hm
 have e4 : weighRec most r = fewI (weighW most (weigh2 most r) r.pr + 1) (weighS most r.st) most := rfl
 have k4 := h4.2.2 (by omega)
 have k3 := weighW_gain hm r.pr (weigh2 most r) (by omega) (by omega)
 have k3' := sum_nn wtW wtW_nn r.pr
 have k2 := h2.2.2 (by omega)
 have k1 := h1.2.2 (by omega)
 have kT := weighT_gain hm r.rd (by omega)
 have kW := weighW_gain hm r.wr 0 (by omega) (by omega)
 have kS := weighS_gain hm r.st (by omega)
 omega
end
theorem len_sum {α : Type} (wt : α → Int) (hw : ∀ a, 1 ≤ wt a) (l : List α) : (l.length : Int) ≤ (l.map wt).sum := by
 induction l with
 | nil => simp
 | cons a l ih => have := hw a; simp only [List.map_cons, List.sum_cons, List.length_cons]; omega
theorem mem_sum {α : Type} (wt : α → Int) (hw : ∀ a, 0 ≤ wt a) {l : List α} {a : α} (h : a ∈ l) : wt a ≤ (l.map wt).sum := by
 induction l with
 | nil => cases h
 | cons b l ih =>
   have h1 := sum_nn wt hw l
   have h2 := hw b
   simp only [List.map_cons, List.sum_cons]
   rcases List.mem_cons.1 h with rfl | h
   · omega
   · have := ih h; omega
theorem flat_leC {α : Type} (f : α → List UInt8) (wt : α → Int) (c : Int) (l : List α) (h : ∀ a ∈ l, ((f a).length : Int) ≤ c * wt a) : ((l.flatMap f).length : Int) ≤ c * (l.map wt).sum := by
 induction l with
 | nil => simp
 | cons a l ih =>
   rw [List.flatMap_cons, List.length_append, List.map_cons, List.sum_cons, Int.mul_add]
   have h1 := h a List.mem_cons_self
   have h2 := ih fun b hb => h b (List.mem_cons_of_mem _ hb)
   omega
end Go.Proofs.YthdmanadhbpogaaGreat
