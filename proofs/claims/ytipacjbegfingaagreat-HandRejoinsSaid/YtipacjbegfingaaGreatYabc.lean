/- The walk of Divide where the split is good; Divide, whatever the state. -/
import Derived.Test.YtipacjbegfingaaGreatYabb
namespace Go.Proofs.YtipacjbegfingaaGreat
set_option linter.unusedVariables false
open Go.RowKit Fl
attribute [local go_sem] run_store_float

theorem pn_info : (Tryz.prog.info? 45).map (fun i => (i.zero, i.size, i.bytes)) = some (some (.agg zeroPn), 8, 96) := by kernel_rfl
/-- a state's cells -/
abbrev stArr (r : Rg) (f c : Sp) (h p : Value) : Array Value := #[.int .i64 r.id, .int .i64 r.ep, .float .f64 r.lo, .float .f64 r.hi, .int .i64 f.w, .int .i64 f.l, .int .i64 f.n, .int .i64 c.w, .int .i64 c.l, .int .i64 c.n, h, p]
abbrev Pn.cs (p : Pn) (r q : Value) : List Value := [.int .i64 p.t.c, .int .i64 p.t.l, .int .i64 p.t.s, .int .i64 p.s.w, .int .i64 p.s.l, .int .i64 p.s.n, r, q]
theorem pn_one (p : Pn) (A1 A2 : Option Addr) (n1 n2 c1 c2 : Nat) : ∀ u ∈ p.cs (.slice A1 n1 c1) (.slice A2 n2 c2), u.oneCell' = true := by
  intro u hu
  simp only [Pn.cs, List.mem_cons, List.not_mem_nil, or_false] at hu
  rcases hu with rfl | rfl | rfl | rfl | rfl | rfl | rfl | rfl <;> rfl
theorem OwnL.inn2 {α : Type} {f : α → List Value} {ok : α → Prop} {E size b : Nat} {K : Nat → Bool} {w : World} {v : Value} {l : List α} (hk : 0 < size) (hf : ∀ a, (f a).length = size) (h : OwnL f E size b w v l) (hok : ∀ a ∈ l, ok a) (hK : ∀ k, v.ownBlock = some k → K k = true) :
    HdRel (Flat f ok) size (only K w) w.heap.size v l := by
  have h' : OwnL f E size b (only K w) v l := owns_only h hK
  have := h'.sl hk hf hok
  rw [only_size] at this
  exact this

end Go.Proofs.YtipacjbegfingaaGreat
