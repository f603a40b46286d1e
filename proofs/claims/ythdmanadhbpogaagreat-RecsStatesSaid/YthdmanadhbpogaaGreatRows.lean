/-
  No cell of these rows narrows 'for every input' (looked for: loops, veiled, ifaces, maps, wideKeys, modest, calm, conditions, laid).
  DERIVED. THE GIVEN ROWS OF THIS SEAT. 6 by the template 'for every input the law returns true; each argument reads behind the call as it read before'; 0 by the template 'total and deterministic' (their statements: YthdmanadhbpogaaGreatTotals.lean).
  GIVEN WITH THE SEED: the statements are not yours to turn. If you find one false, say at which input.
  Laid BY PROGRAM, IN A SANDBOX (cutbox-rows.mjs): the forced cells as the released guide's own fill.sh prints them over the translation a1e763829a69caed… (all of the seat's roots in one cut). By AI agents, Wed Nov 11 2026. No macro, syntax, notation, axiom, sorry.
-/
import Derived.Test.YthdmanadhbpogaaGreatChecked
import GoSem.Claim
import GoSem.ClaimJoined
import GoSem.ClaimMapViews
import Derived.JoinedTies
import Derived.KernelRfl
namespace Go.Proofs.YthdmanadhbpogaaGreat
/- THE CELL 'sum', in the pinned program and in every row, IS THE sha256 OF THE DUMP (.gsa) THAT YthdmanadhbpogaaGreatProg.lean LOADS. Nothing in Lean hashes anything: it is a label: what it is worth is what the hold of that sum in a sandbox is worth. -/
noncomputable def Tryz.pinned : Pinned := { name := "ythdmanadhbpogaagreat", sum := "a1e763829a69caeda522f19be63817deeaf1203ed75a6e582fcdc136c354d6c7", checked := Tryz.checked }
namespace Rows
def none {H : Type} : Left H := { results := [], args := [] }

/-- 'racelaw11.RecsKinds': WHATEVER THE INPUT: true; the input reads as it did. -/
def recsKindsSpec : ChangeSpec := { name := "recsKinds", fn := fun _ => fun
  | [d1, d2] => { results := [.lit (.bool true)], args := [d1, d2] }
  | _ => none }
def recsKindsRow : OpenClaim := { program := "ythdmanadhbpogaagreat", sum := "a1e763829a69caeda522f19be63817deeaf1203ed75a6e582fcdc136c354d6c7", func := "headrace/racelaw11.RecsKinds", spec := "recsKinds", inPlace := ["math.Float64bits", "math.Float64frombits"], unfollowed := true, recurses := true, plainKeys := false, apart := false }
def RecsKindsSaid : Prop := recsKindsRow.holds Tryz.pinned (OpenSpec.ofChange recsKindsSpec)

/-- ITS FALSE NEIGHBOUR: 'it returns false'. Refute it at one input. -/
def recsKindsWrong : ChangeSpec := { name := "recsKinds", fn := fun _ => fun
  | [d1, d2] => { results := [.lit (.bool false)], args := [d1, d2] }
  | _ => none }
def RecsKindsWrongFalsely : Prop := recsKindsRow.holds Tryz.pinned (OpenSpec.ofChange recsKindsWrong)

/-- 'racelaw11.RecsEncodes': WHATEVER THE INPUT: true; the input reads as it did. -/
def recsEncodesSpec : ChangeSpec := { name := "recsEncodes", fn := fun _ => fun
  | [d] => { results := [.lit (.bool true)], args := [d] }
  | _ => none }
def recsEncodesRow : OpenClaim := { program := "ythdmanadhbpogaagreat", sum := "a1e763829a69caeda522f19be63817deeaf1203ed75a6e582fcdc136c354d6c7", func := "headrace/racelaw11.RecsEncodes", spec := "recsEncodes", inPlace := ["math.Float64bits", "math.Float64frombits"], unfollowed := true, recurses := true, plainKeys := false, apart := false }
def RecsEncodesSaid : Prop := recsEncodesRow.holds Tryz.pinned (OpenSpec.ofChange recsEncodesSpec)

/-- ITS FALSE NEIGHBOUR: 'it returns false'. Refute it at one input. -/
def recsEncodesWrong : ChangeSpec := { name := "recsEncodes", fn := fun _ => fun
  | [d] => { results := [.lit (.bool false)], args := [d] }
  | _ => none }
def RecsEncodesWrongFalsely : Prop := recsEncodesRow.holds Tryz.pinned (OpenSpec.ofChange recsEncodesWrong)

/-- 'racelaw11.RecsDecodes': WHATEVER THE INPUT: true; the input reads as it did. -/
def recsDecodesSpec : ChangeSpec := { name := "recsDecodes", fn := fun _ => fun
  | [d] => { results := [.lit (.bool true)], args := [d] }
  | _ => none }
def recsDecodesRow : OpenClaim := { program := "ythdmanadhbpogaagreat", sum := "a1e763829a69caeda522f19be63817deeaf1203ed75a6e582fcdc136c354d6c7", func := "headrace/racelaw11.RecsDecodes", spec := "recsDecodes", inPlace := ["math.Float64bits", "math.Float64frombits"], unfollowed := true, recurses := true, plainKeys := false, apart := false }
def RecsDecodesSaid : Prop := recsDecodesRow.holds Tryz.pinned (OpenSpec.ofChange recsDecodesSpec)

/-- ITS FALSE NEIGHBOUR: 'it returns false'. Refute it at one input. -/
def recsDecodesWrong : ChangeSpec := { name := "recsDecodes", fn := fun _ => fun
  | [d] => { results := [.lit (.bool false)], args := [d] }
  | _ => none }
def RecsDecodesWrongFalsely : Prop := recsDecodesRow.holds Tryz.pinned (OpenSpec.ofChange recsDecodesWrong)

/-- 'racelaw11.RecsBack': WHATEVER THE INPUT: true; the input reads as it did. -/
def recsBackSpec : ChangeSpec := { name := "recsBack", fn := fun _ => fun
  | [d1, d2, d3] => { results := [.lit (.bool true)], args := [d1, d2, d3] }
  | _ => none }
def recsBackRow : OpenClaim := { program := "ythdmanadhbpogaagreat", sum := "a1e763829a69caeda522f19be63817deeaf1203ed75a6e582fcdc136c354d6c7", func := "headrace/racelaw11.RecsBack", spec := "recsBack", inPlace := ["math.Float64bits", "math.Float64frombits"], unfollowed := true, recurses := true, plainKeys := false, apart := false }
def RecsBackSaid : Prop := recsBackRow.holds Tryz.pinned (OpenSpec.ofChange recsBackSpec)

/-- ITS FALSE NEIGHBOUR: 'it returns false'. Refute it at one input. -/
def recsBackWrong : ChangeSpec := { name := "recsBack", fn := fun _ => fun
  | [d1, d2, d3] => { results := [.lit (.bool false)], args := [d1, d2, d3] }
  | _ => none }
def RecsBackWrongFalsely : Prop := recsBackRow.holds Tryz.pinned (OpenSpec.ofChange recsBackWrong)

/-- 'racelaw11.RecsOwn': WHATEVER THE INPUT: true; the input reads as it did. -/
def recsOwnSpec : ChangeSpec := { name := "recsOwn", fn := fun _ => fun
  | [d1, d2] => { results := [.lit (.bool true)], args := [d1, d2] }
  | _ => none }
def recsOwnRow : OpenClaim := { program := "ythdmanadhbpogaagreat", sum := "a1e763829a69caeda522f19be63817deeaf1203ed75a6e582fcdc136c354d6c7", func := "headrace/racelaw11.RecsOwn", spec := "recsOwn", inPlace := ["math.Float64bits", "math.Float64frombits"], unfollowed := true, recurses := true, plainKeys := false, apart := false }
def RecsOwnSaid : Prop := recsOwnRow.holds Tryz.pinned (OpenSpec.ofChange recsOwnSpec)

/-- ITS FALSE NEIGHBOUR: 'it returns false'. Refute it at one input. -/
def recsOwnWrong : ChangeSpec := { name := "recsOwn", fn := fun _ => fun
  | [d1, d2] => { results := [.lit (.bool false)], args := [d1, d2] }
  | _ => none }
def RecsOwnWrongFalsely : Prop := recsOwnRow.holds Tryz.pinned (OpenSpec.ofChange recsOwnWrong)

/-- 'racelaw11.RecsStates': WHATEVER THE INPUT: true; the input reads as it did. -/
def recsStatesSpec : ChangeSpec := { name := "recsStates", fn := fun _ => fun
  | [d1, d2] => { results := [.lit (.bool true)], args := [d1, d2] }
  | _ => none }
def recsStatesRow : OpenClaim := { program := "ythdmanadhbpogaagreat", sum := "a1e763829a69caeda522f19be63817deeaf1203ed75a6e582fcdc136c354d6c7", func := "headrace/racelaw11.RecsStates", spec := "recsStates", inPlace := ["math.Float64bits", "math.Float64frombits"], unfollowed := true, recurses := true, plainKeys := false, apart := false }
def RecsStatesSaid : Prop := recsStatesRow.holds Tryz.pinned (OpenSpec.ofChange recsStatesSpec)

/-- ITS FALSE NEIGHBOUR: 'it returns false'. Refute it at one input. -/
def recsStatesWrong : ChangeSpec := { name := "recsStates", fn := fun _ => fun
  | [d1, d2] => { results := [.lit (.bool false)], args := [d1, d2] }
  | _ => none }
def RecsStatesWrongFalsely : Prop := recsStatesRow.holds Tryz.pinned (OpenSpec.ofChange recsStatesWrong)

/- THE SECOND FORM. 'bulk': how many values and letters a reading holds, each counted each time it is reached (what is shared counts as often as it is met; a slice's spare places count too). A statement '..UptoSaid' is the law's where the arguments, and the package variables that the reading takes, are together of bulk at most 1048576: NARROWER than '..Said'. Prove '..Said' where nothing that the law and all that it calls make is longer than what came in: it says more and counts as full. Else prove '..UptoSaid'. A law counts once. -/
mutual
def uptoBulk {H : Type} : DataW H → Nat
  | .lit (.string bytes) => bytes.length + 1
  | .lit _ => 1
  | .nil => 1
  | .ptr d => uptoBulk d + 1
  | .slice elems spare => uptoBulkAll elems + uptoBulkAll spare + 1
  | .agg parts => uptoBulkAll parts + 1
  | .iface _ d => uptoBulk d + 1
  | .map entries => uptoBulkEntries entries + 1
  | .held _ => 1
def uptoBulkAll {H : Type} : List (DataW H) → Nat
  | [] => 0
  | d :: r => uptoBulk d + uptoBulkAll r
def uptoBulkEntries {H : Type} : List (Lit × DataW H) → Nat
  | [] => 0
  | x :: r => uptoBulkEntry x + uptoBulkEntries r
def uptoBulkEntry {H : Type} : Lit × DataW H → Nat
  | (.string bytes, d) => bytes.length + uptoBulk d + 1
  | (_, d) => uptoBulk d + 1
 end
def uptoSmall : (H : Type) → List (DataW H) → Bool := fun _ ds => decide (uptoBulkAll ds ≤ 1048576)
def OpenSpec.upto (s : _root_.Go.ChangeSpec) : _root_.Go.OpenSpec := { _root_.Go.OpenSpec.ofChange s with cond := some uptoSmall }

/-- 'racelaw11.RecsKinds', WHERE WHAT IT READS IS OF BULK AT MOST 1048576: true; the input reads as it did. -/
def recsKindsUptoRow : OpenClaim := { program := "ythdmanadhbpogaagreat", sum := "a1e763829a69caeda522f19be63817deeaf1203ed75a6e582fcdc136c354d6c7", func := "headrace/racelaw11.RecsKinds", spec := "recsKinds", inPlace := ["math.Float64bits", "math.Float64frombits"], unfollowed := true, recurses := true, plainKeys := false, apart := false, narrowed := true }
def RecsKindsUptoSaid : Prop := recsKindsUptoRow.holds Tryz.pinned (OpenSpec.upto recsKindsSpec)

/-- 'racelaw11.RecsEncodes', WHERE WHAT IT READS IS OF BULK AT MOST 1048576: true; the input reads as it did. -/
def recsEncodesUptoRow : OpenClaim := { program := "ythdmanadhbpogaagreat", sum := "a1e763829a69caeda522f19be63817deeaf1203ed75a6e582fcdc136c354d6c7", func := "headrace/racelaw11.RecsEncodes", spec := "recsEncodes", inPlace := ["math.Float64bits", "math.Float64frombits"], unfollowed := true, recurses := true, plainKeys := false, apart := false, narrowed := true }
def RecsEncodesUptoSaid : Prop := recsEncodesUptoRow.holds Tryz.pinned (OpenSpec.upto recsEncodesSpec)

/-- 'racelaw11.RecsDecodes', WHERE WHAT IT READS IS OF BULK AT MOST 1048576: true; the input reads as it did. -/
def recsDecodesUptoRow : OpenClaim := { program := "ythdmanadhbpogaagreat", sum := "a1e763829a69caeda522f19be63817deeaf1203ed75a6e582fcdc136c354d6c7", func := "headrace/racelaw11.RecsDecodes", spec := "recsDecodes", inPlace := ["math.Float64bits", "math.Float64frombits"], unfollowed := true, recurses := true, plainKeys := false, apart := false, narrowed := true }
def RecsDecodesUptoSaid : Prop := recsDecodesUptoRow.holds Tryz.pinned (OpenSpec.upto recsDecodesSpec)

/-- 'racelaw11.RecsBack', WHERE WHAT IT READS IS OF BULK AT MOST 1048576: true; the input reads as it did. -/
def recsBackUptoRow : OpenClaim := { program := "ythdmanadhbpogaagreat", sum := "a1e763829a69caeda522f19be63817deeaf1203ed75a6e582fcdc136c354d6c7", func := "headrace/racelaw11.RecsBack", spec := "recsBack", inPlace := ["math.Float64bits", "math.Float64frombits"], unfollowed := true, recurses := true, plainKeys := false, apart := false, narrowed := true }
def RecsBackUptoSaid : Prop := recsBackUptoRow.holds Tryz.pinned (OpenSpec.upto recsBackSpec)

/-- 'racelaw11.RecsOwn', WHERE WHAT IT READS IS OF BULK AT MOST 1048576: true; the input reads as it did. -/
def recsOwnUptoRow : OpenClaim := { program := "ythdmanadhbpogaagreat", sum := "a1e763829a69caeda522f19be63817deeaf1203ed75a6e582fcdc136c354d6c7", func := "headrace/racelaw11.RecsOwn", spec := "recsOwn", inPlace := ["math.Float64bits", "math.Float64frombits"], unfollowed := true, recurses := true, plainKeys := false, apart := false, narrowed := true }
def RecsOwnUptoSaid : Prop := recsOwnUptoRow.holds Tryz.pinned (OpenSpec.upto recsOwnSpec)

/-- 'racelaw11.RecsStates', WHERE WHAT IT READS IS OF BULK AT MOST 1048576: true; the input reads as it did. -/
def recsStatesUptoRow : OpenClaim := { program := "ythdmanadhbpogaagreat", sum := "a1e763829a69caeda522f19be63817deeaf1203ed75a6e582fcdc136c354d6c7", func := "headrace/racelaw11.RecsStates", spec := "recsStates", inPlace := ["math.Float64bits", "math.Float64frombits"], unfollowed := true, recurses := true, plainKeys := false, apart := false, narrowed := true }
def RecsStatesUptoSaid : Prop := recsStatesUptoRow.holds Tryz.pinned (OpenSpec.upto recsStatesSpec)

end Rows
end Go.Proofs.YthdmanadhbpogaaGreat
