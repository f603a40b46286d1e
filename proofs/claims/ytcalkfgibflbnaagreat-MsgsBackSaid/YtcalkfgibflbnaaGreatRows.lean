/-
  No cell of these rows narrows 'for every input' (looked for: loops, veiled, ifaces, maps, wideKeys, modest, calm, conditions, laid).
  DERIVED. THE GIVEN ROWS OF THIS SEAT. 5 by the template 'for every input the law returns true; each argument reads behind the call as it read before'; 0 by the template 'total and deterministic' (their statements: YtcalkfgibflbnaaGreatTotals.lean).
  GIVEN WITH THE SEED: the statements are not yours to turn. If you find one false, say at which input.
  Laid BY PROGRAM, IN A SANDBOX (cutbox-rows.mjs): the forced cells as the released guide's own fill.sh prints them over the translation 22dfe4cf62df8def… (all of the seat's roots in one cut). By AI agents, Wed Nov 11 2026. No macro, syntax, notation, axiom, sorry.
-/
import Derived.Test.YtcalkfgibflbnaaGreatChecked
import GoSem.Claim
import GoSem.ClaimJoined
import GoSem.ClaimMapViews
import Derived.JoinedTies
import Derived.KernelRfl
namespace Go.Proofs.YtcalkfgibflbnaaGreat
/- THE CELL 'sum', in the pinned program and in every row, IS THE sha256 OF THE DUMP (.gsa) THAT YtcalkfgibflbnaaGreatProg.lean LOADS. Nothing in Lean hashes anything: it is a label: what it is worth is what the hold of that sum in a sandbox is worth. -/
noncomputable def Tryz.pinned : Pinned := { name := "ytcalkfgibflbnaagreat", sum := "22dfe4cf62df8deff47dba97d99deca8da64d93b78b987fb92482022b4f2d616", checked := Tryz.checked }
namespace Rows
def none {H : Type} : Left H := { results := [], args := [] }

/-- 'racelaw12.MsgsKinds': WHATEVER THE INPUT: true; the input reads as it did. -/
def msgsKindsSpec : ChangeSpec := { name := "msgsKinds", fn := fun _ => fun
  | [d1, d2] => { results := [.lit (.bool true)], args := [d1, d2] }
  | _ => none }
def msgsKindsRow : OpenClaim := { program := "ytcalkfgibflbnaagreat", sum := "22dfe4cf62df8deff47dba97d99deca8da64d93b78b987fb92482022b4f2d616", func := "headrace/racelaw12.MsgsKinds", spec := "msgsKinds", inPlace := ["math.Float64bits", "math.Float64frombits"], unfollowed := true, recurses := true, plainKeys := false, apart := false }
def MsgsKindsSaid : Prop := msgsKindsRow.holds Tryz.pinned (OpenSpec.ofChange msgsKindsSpec)

/-- ITS FALSE NEIGHBOUR: 'it returns false'. Refute it at one input. -/
def msgsKindsWrong : ChangeSpec := { name := "msgsKinds", fn := fun _ => fun
  | [d1, d2] => { results := [.lit (.bool false)], args := [d1, d2] }
  | _ => none }
def MsgsKindsWrongFalsely : Prop := msgsKindsRow.holds Tryz.pinned (OpenSpec.ofChange msgsKindsWrong)

/-- 'racelaw12.MsgsEncodes': WHATEVER THE INPUT: true; the input reads as it did. -/
def msgsEncodesSpec : ChangeSpec := { name := "msgsEncodes", fn := fun _ => fun
  | [d] => { results := [.lit (.bool true)], args := [d] }
  | _ => none }
def msgsEncodesRow : OpenClaim := { program := "ytcalkfgibflbnaagreat", sum := "22dfe4cf62df8deff47dba97d99deca8da64d93b78b987fb92482022b4f2d616", func := "headrace/racelaw12.MsgsEncodes", spec := "msgsEncodes", inPlace := ["math.Float64bits", "math.Float64frombits"], unfollowed := true, recurses := true, plainKeys := false, apart := false }
def MsgsEncodesSaid : Prop := msgsEncodesRow.holds Tryz.pinned (OpenSpec.ofChange msgsEncodesSpec)

/-- ITS FALSE NEIGHBOUR: 'it returns false'. Refute it at one input. -/
def msgsEncodesWrong : ChangeSpec := { name := "msgsEncodes", fn := fun _ => fun
  | [d] => { results := [.lit (.bool false)], args := [d] }
  | _ => none }
def MsgsEncodesWrongFalsely : Prop := msgsEncodesRow.holds Tryz.pinned (OpenSpec.ofChange msgsEncodesWrong)

/-- 'racelaw12.MsgsDecodes': WHATEVER THE INPUT: true; the input reads as it did. -/
def msgsDecodesSpec : ChangeSpec := { name := "msgsDecodes", fn := fun _ => fun
  | [d] => { results := [.lit (.bool true)], args := [d] }
  | _ => none }
def msgsDecodesRow : OpenClaim := { program := "ytcalkfgibflbnaagreat", sum := "22dfe4cf62df8deff47dba97d99deca8da64d93b78b987fb92482022b4f2d616", func := "headrace/racelaw12.MsgsDecodes", spec := "msgsDecodes", inPlace := ["math.Float64bits", "math.Float64frombits"], unfollowed := true, recurses := true, plainKeys := false, apart := false }
def MsgsDecodesSaid : Prop := msgsDecodesRow.holds Tryz.pinned (OpenSpec.ofChange msgsDecodesSpec)

/-- ITS FALSE NEIGHBOUR: 'it returns false'. Refute it at one input. -/
def msgsDecodesWrong : ChangeSpec := { name := "msgsDecodes", fn := fun _ => fun
  | [d] => { results := [.lit (.bool false)], args := [d] }
  | _ => none }
def MsgsDecodesWrongFalsely : Prop := msgsDecodesRow.holds Tryz.pinned (OpenSpec.ofChange msgsDecodesWrong)

/-- 'racelaw12.MsgsBack': WHATEVER THE INPUT: true; the input reads as it did. -/
def msgsBackSpec : ChangeSpec := { name := "msgsBack", fn := fun _ => fun
  | [d1, d2, d3] => { results := [.lit (.bool true)], args := [d1, d2, d3] }
  | _ => none }
def msgsBackRow : OpenClaim := { program := "ytcalkfgibflbnaagreat", sum := "22dfe4cf62df8deff47dba97d99deca8da64d93b78b987fb92482022b4f2d616", func := "headrace/racelaw12.MsgsBack", spec := "msgsBack", inPlace := ["math.Float64bits", "math.Float64frombits"], unfollowed := true, recurses := true, plainKeys := false, apart := false }
def MsgsBackSaid : Prop := msgsBackRow.holds Tryz.pinned (OpenSpec.ofChange msgsBackSpec)

/-- ITS FALSE NEIGHBOUR: 'it returns false'. Refute it at one input. -/
def msgsBackWrong : ChangeSpec := { name := "msgsBack", fn := fun _ => fun
  | [d1, d2, d3] => { results := [.lit (.bool false)], args := [d1, d2, d3] }
  | _ => none }
def MsgsBackWrongFalsely : Prop := msgsBackRow.holds Tryz.pinned (OpenSpec.ofChange msgsBackWrong)

/-- 'racelaw12.MsgsOwn': WHATEVER THE INPUT: true; the input reads as it did. -/
def msgsOwnSpec : ChangeSpec := { name := "msgsOwn", fn := fun _ => fun
  | [d1, d2] => { results := [.lit (.bool true)], args := [d1, d2] }
  | _ => none }
def msgsOwnRow : OpenClaim := { program := "ytcalkfgibflbnaagreat", sum := "22dfe4cf62df8deff47dba97d99deca8da64d93b78b987fb92482022b4f2d616", func := "headrace/racelaw12.MsgsOwn", spec := "msgsOwn", inPlace := ["math.Float64bits", "math.Float64frombits"], unfollowed := true, recurses := true, plainKeys := false, apart := false }
def MsgsOwnSaid : Prop := msgsOwnRow.holds Tryz.pinned (OpenSpec.ofChange msgsOwnSpec)

/-- ITS FALSE NEIGHBOUR: 'it returns false'. Refute it at one input. -/
def msgsOwnWrong : ChangeSpec := { name := "msgsOwn", fn := fun _ => fun
  | [d1, d2] => { results := [.lit (.bool false)], args := [d1, d2] }
  | _ => none }
def MsgsOwnWrongFalsely : Prop := msgsOwnRow.holds Tryz.pinned (OpenSpec.ofChange msgsOwnWrong)

/- THE SECOND FORM. 'bulk': how many values and letters a reading holds, each counted each time it is reached (what is shared counts as often as it is met; a slice's spare places count too). A statement '..UptoSaid' is the law's where the arguments, and the package variables that the reading takes, are together of bulk at most 1048576: NARROWER than '..Said'. Prove '..Said' where nothing that the law and all that it calls make is longer than what came in: it says more and counts as full. Else prove '..UptoSaid'. A law counts once. -/
mutual
def uptoBulk {H : Type} : DataW H → Nat
  | .lit (.string bytes) => bytes.length + 1
  | .lit _ => 1
  | .nil => 1
  | .ptr d => uptoBulk d + 1
  | .slice elems spare => uptoBulkAll elems + uptoBulkAll spare + 1
  | .agg parts => uptoBulkAll parts + 1
  | .iface _ d => uptoBulk d + 1
  | .map entries => uptoBulkEntries entries + 1
  | .held _ => 1
def uptoBulkAll {H : Type} : List (DataW H) → Nat
  | [] => 0
  | d :: r => uptoBulk d + uptoBulkAll r
def uptoBulkEntries {H : Type} : List (Lit × DataW H) → Nat
  | [] => 0
  | x :: r => uptoBulkEntry x + uptoBulkEntries r
def uptoBulkEntry {H : Type} : Lit × DataW H → Nat
  | (.string bytes, d) => bytes.length + uptoBulk d + 1
  | (_, d) => uptoBulk d + 1
 end
def uptoSmall : (H : Type) → List (DataW H) → Bool := fun _ ds => decide (uptoBulkAll ds ≤ 1048576)
def OpenSpec.upto (s : _root_.Go.ChangeSpec) : _root_.Go.OpenSpec := { _root_.Go.OpenSpec.ofChange s with cond := some uptoSmall }

/-- 'racelaw12.MsgsKinds', WHERE WHAT IT READS IS OF BULK AT MOST 1048576: true; the input reads as it did. -/
def msgsKindsUptoRow : OpenClaim := { program := "ytcalkfgibflbnaagreat", sum := "22dfe4cf62df8deff47dba97d99deca8da64d93b78b987fb92482022b4f2d616", func := "headrace/racelaw12.MsgsKinds", spec := "msgsKinds", inPlace := ["math.Float64bits", "math.Float64frombits"], unfollowed := true, recurses := true, plainKeys := false, apart := false, narrowed := true }
def MsgsKindsUptoSaid : Prop := msgsKindsUptoRow.holds Tryz.pinned (OpenSpec.upto msgsKindsSpec)

/-- 'racelaw12.MsgsEncodes', WHERE WHAT IT READS IS OF BULK AT MOST 1048576: true; the input reads as it did. -/
def msgsEncodesUptoRow : OpenClaim := { program := "ytcalkfgibflbnaagreat", sum := "22dfe4cf62df8deff47dba97d99deca8da64d93b78b987fb92482022b4f2d616", func := "headrace/racelaw12.MsgsEncodes", spec := "msgsEncodes", inPlace := ["math.Float64bits", "math.Float64frombits"], unfollowed := true, recurses := true, plainKeys := false, apart := false, narrowed := true }
def MsgsEncodesUptoSaid : Prop := msgsEncodesUptoRow.holds Tryz.pinned (OpenSpec.upto msgsEncodesSpec)

/-- 'racelaw12.MsgsDecodes', WHERE WHAT IT READS IS OF BULK AT MOST 1048576: true; the input reads as it did. -/
def msgsDecodesUptoRow : OpenClaim := { program := "ytcalkfgibflbnaagreat", sum := "22dfe4cf62df8deff47dba97d99deca8da64d93b78b987fb92482022b4f2d616", func := "headrace/racelaw12.MsgsDecodes", spec := "msgsDecodes", inPlace := ["math.Float64bits", "math.Float64frombits"], unfollowed := true, recurses := true, plainKeys := false, apart := false, narrowed := true }
def MsgsDecodesUptoSaid : Prop := msgsDecodesUptoRow.holds Tryz.pinned (OpenSpec.upto msgsDecodesSpec)

/-- 'racelaw12.MsgsBack', WHERE WHAT IT READS IS OF BULK AT MOST 1048576: true; the input reads as it did. -/
def msgsBackUptoRow : OpenClaim := { program := "ytcalkfgibflbnaagreat", sum := "22dfe4cf62df8deff47dba97d99deca8da64d93b78b987fb92482022b4f2d616", func := "headrace/racelaw12.MsgsBack", spec := "msgsBack", inPlace := ["math.Float64bits", "math.Float64frombits"], unfollowed := true, recurses := true, plainKeys := false, apart := false, narrowed := true }
def MsgsBackUptoSaid : Prop := msgsBackUptoRow.holds Tryz.pinned (OpenSpec.upto msgsBackSpec)

/-- 'racelaw12.MsgsOwn', WHERE WHAT IT READS IS OF BULK AT MOST 1048576: true; the input reads as it did. -/
def msgsOwnUptoRow : OpenClaim := { program := "ytcalkfgibflbnaagreat", sum := "22dfe4cf62df8deff47dba97d99deca8da64d93b78b987fb92482022b4f2d616", func := "headrace/racelaw12.MsgsOwn", spec := "msgsOwn", inPlace := ["math.Float64bits", "math.Float64frombits"], unfollowed := true, recurses := true, plainKeys := false, apart := false, narrowed := true }
def MsgsOwnUptoSaid : Prop := msgsOwnUptoRow.holds Tryz.pinned (OpenSpec.upto msgsOwnSpec)

end Rows
end Go.Proofs.YtcalkfgibflbnaaGreat
