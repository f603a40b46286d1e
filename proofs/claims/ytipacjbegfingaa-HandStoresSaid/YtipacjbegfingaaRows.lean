/-
  No cell of these rows narrows 'for every input' (looked for: loops, veiled, ifaces, maps, wideKeys, modest, calm, conditions, laid).
  DERIVED. THE GIVEN ROWS OF THIS SEAT. 4 by the template 'for every input the law returns true; each argument reads behind the call as it read before'; 0 by the template 'total and deterministic' (their statements: YtipacjbegfingaaTotals.lean).
  GIVEN WITH THE SEED: the statements are not yours to turn. If you find one false, say at which input.
  Laid BY PROGRAM, IN A SANDBOX (cutbox-rows.mjs): the forced cells as the released guide's own fill.sh prints them over the translation 88b6d10d30ef3fb8… (all of the seat's roots in one cut). By AI agents, Wed Nov 11 2026. No macro, syntax, notation, axiom, sorry.
-/
import Derived.Test.YtipacjbegfingaaChecked
import GoSem.Claim
import GoSem.ClaimJoined
import GoSem.ClaimMapViews
import Derived.JoinedTies
import Derived.KernelRfl
namespace Go.Proofs.Ytipacjbegfingaa
/- THE CELL 'sum', in the pinned program and in every row, IS THE sha256 OF THE DUMP (.gsa) THAT YtipacjbegfingaaProg.lean LOADS. Nothing in Lean hashes anything: it is a label: what it is worth is what the hold of that sum in a sandbox is worth. -/
noncomputable def Try.pinned : Pinned := { name := "ytipacjbegfingaa", sum := "88b6d10d30ef3fb8f742d5e1fb66fec2fa44443b18e450030d4359c567707670", checked := Try.checked }
namespace Rows
def none {H : Type} : Left H := { results := [], args := [] }

/-- 'racelaw15.HandDivides': WHATEVER THE INPUT: true; the input reads as it did. -/
def handDividesSpec : ChangeSpec := { name := "handDivides", fn := fun _ => fun
  | [d1, d2, d3, d4, d5] => { results := [.lit (.bool true)], args := [d1, d2, d3, d4, d5] }
  | _ => none }
def handDividesRow : OpenClaim := { program := "ytipacjbegfingaa", sum := "88b6d10d30ef3fb8f742d5e1fb66fec2fa44443b18e450030d4359c567707670", func := "headrace/racelaw15.HandDivides", spec := "handDivides", inPlace := ["math.Float64frombits", "math.Float64bits"], unfollowed := true, recurses := true, plainKeys := false, apart := false }
def HandDividesSaid : Prop := handDividesRow.holds Try.pinned (OpenSpec.ofChange handDividesSpec)

/-- ITS FALSE NEIGHBOUR: 'it returns false'. Refute it at one input. -/
def handDividesWrong : ChangeSpec := { name := "handDivides", fn := fun _ => fun
  | [d1, d2, d3, d4, d5] => { results := [.lit (.bool false)], args := [d1, d2, d3, d4, d5] }
  | _ => none }
def HandDividesWrongFalsely : Prop := handDividesRow.holds Try.pinned (OpenSpec.ofChange handDividesWrong)

/-- 'racelaw15.HandStores': WHATEVER THE INPUT: true; the input reads as it did. -/
def handStoresSpec : ChangeSpec := { name := "handStores", fn := fun _ => fun
  | [d1, d2, d3, d4, d5, d6] => { results := [.lit (.bool true)], args := [d1, d2, d3, d4, d5, d6] }
  | _ => none }
def handStoresRow : OpenClaim := { program := "ytipacjbegfingaa", sum := "88b6d10d30ef3fb8f742d5e1fb66fec2fa44443b18e450030d4359c567707670", func := "headrace/racelaw15.HandStores", spec := "handStores", inPlace := ["math.Float64frombits", "math.Float64bits"], unfollowed := true, recurses := true, plainKeys := false, apart := false }
def HandStoresSaid : Prop := handStoresRow.holds Try.pinned (OpenSpec.ofChange handStoresSpec)

/-- ITS FALSE NEIGHBOUR: 'it returns false'. Refute it at one input. -/
def handStoresWrong : ChangeSpec := { name := "handStores", fn := fun _ => fun
  | [d1, d2, d3, d4, d5, d6] => { results := [.lit (.bool false)], args := [d1, d2, d3, d4, d5, d6] }
  | _ => none }
def HandStoresWrongFalsely : Prop := handStoresRow.holds Try.pinned (OpenSpec.ofChange handStoresWrong)

/-- 'racelaw15.HandTwice': WHATEVER THE INPUT: true; the input reads as it did. -/
def handTwiceSpec : ChangeSpec := { name := "handTwice", fn := fun _ => fun
  | [d1, d2, d3, d4, d5] => { results := [.lit (.bool true)], args := [d1, d2, d3, d4, d5] }
  | _ => none }
def handTwiceRow : OpenClaim := { program := "ytipacjbegfingaa", sum := "88b6d10d30ef3fb8f742d5e1fb66fec2fa44443b18e450030d4359c567707670", func := "headrace/racelaw15.HandTwice", spec := "handTwice", inPlace := ["math.Float64frombits", "math.Float64bits"], unfollowed := true, recurses := true, plainKeys := false, apart := false }
def HandTwiceSaid : Prop := handTwiceRow.holds Try.pinned (OpenSpec.ofChange handTwiceSpec)

/-- ITS FALSE NEIGHBOUR: 'it returns false'. Refute it at one input. -/
def handTwiceWrong : ChangeSpec := { name := "handTwice", fn := fun _ => fun
  | [d1, d2, d3, d4, d5] => { results := [.lit (.bool false)], args := [d1, d2, d3, d4, d5] }
  | _ => none }
def HandTwiceWrongFalsely : Prop := handTwiceRow.holds Try.pinned (OpenSpec.ofChange handTwiceWrong)

/-- 'racelaw15.HandOwn': WHATEVER THE INPUT: true; the input reads as it did. -/
def handOwnSpec : ChangeSpec := { name := "handOwn", fn := fun _ => fun
  | [d1, d2] => { results := [.lit (.bool true)], args := [d1, d2] }
  | _ => none }
def handOwnRow : OpenClaim := { program := "ytipacjbegfingaa", sum := "88b6d10d30ef3fb8f742d5e1fb66fec2fa44443b18e450030d4359c567707670", func := "headrace/racelaw15.HandOwn", spec := "handOwn", inPlace := ["math.Float64frombits", "math.Float64bits"], unfollowed := true, recurses := true, plainKeys := false, apart := false }
def HandOwnSaid : Prop := handOwnRow.holds Try.pinned (OpenSpec.ofChange handOwnSpec)

/-- ITS FALSE NEIGHBOUR: 'it returns false'. Refute it at one input. -/
def handOwnWrong : ChangeSpec := { name := "handOwn", fn := fun _ => fun
  | [d1, d2] => { results := [.lit (.bool false)], args := [d1, d2] }
  | _ => none }
def HandOwnWrongFalsely : Prop := handOwnRow.holds Try.pinned (OpenSpec.ofChange handOwnWrong)

/- THE SECOND FORM. 'bulk': how many values and letters a reading holds, each counted each time it is reached (what is shared counts as often as it is met; a slice's spare places count too). A statement '..UptoSaid' is the law's where the arguments, and the package variables that the reading takes, are together of bulk at most 1048576: NARROWER than '..Said'. Prove '..Said' where nothing that the law and all that it calls make is longer than what came in: it says more and counts as full. Else prove '..UptoSaid'. A law counts once. -/
mutual
def uptoBulk {H : Type} : DataW H → Nat
  | .lit (.string bytes) => bytes.length + 1
  | .lit _ => 1
  | .nil => 1
  | .ptr d => uptoBulk d + 1
  | .slice elems spare => uptoBulkAll elems + uptoBulkAll spare + 1
  | .agg parts => uptoBulkAll parts + 1
  | .iface _ d => uptoBulk d + 1
  | .map entries => uptoBulkEntries entries + 1
  | .held _ => 1
def uptoBulkAll {H : Type} : List (DataW H) → Nat
  | [] => 0
  | d :: r => uptoBulk d + uptoBulkAll r
def uptoBulkEntries {H : Type} : List (Lit × DataW H) → Nat
  | [] => 0
  | x :: r => uptoBulkEntry x + uptoBulkEntries r
def uptoBulkEntry {H : Type} : Lit × DataW H → Nat
  | (.string bytes, d) => bytes.length + uptoBulk d + 1
  | (_, d) => uptoBulk d + 1
 end
def uptoSmall : (H : Type) → List (DataW H) → Bool := fun _ ds => decide (uptoBulkAll ds ≤ 1048576)
def OpenSpec.upto (s : _root_.Go.ChangeSpec) : _root_.Go.OpenSpec := { _root_.Go.OpenSpec.ofChange s with cond := some uptoSmall }

/-- 'racelaw15.HandDivides', WHERE WHAT IT READS IS OF BULK AT MOST 1048576: true; the input reads as it did. -/
def handDividesUptoRow : OpenClaim := { program := "ytipacjbegfingaa", sum := "88b6d10d30ef3fb8f742d5e1fb66fec2fa44443b18e450030d4359c567707670", func := "headrace/racelaw15.HandDivides", spec := "handDivides", inPlace := ["math.Float64frombits", "math.Float64bits"], unfollowed := true, recurses := true, plainKeys := false, apart := false, narrowed := true }
def HandDividesUptoSaid : Prop := handDividesUptoRow.holds Try.pinned (OpenSpec.upto handDividesSpec)

/-- 'racelaw15.HandStores', WHERE WHAT IT READS IS OF BULK AT MOST 1048576: true; the input reads as it did. -/
def handStoresUptoRow : OpenClaim := { program := "ytipacjbegfingaa", sum := "88b6d10d30ef3fb8f742d5e1fb66fec2fa44443b18e450030d4359c567707670", func := "headrace/racelaw15.HandStores", spec := "handStores", inPlace := ["math.Float64frombits", "math.Float64bits"], unfollowed := true, recurses := true, plainKeys := false, apart := false, narrowed := true }
def HandStoresUptoSaid : Prop := handStoresUptoRow.holds Try.pinned (OpenSpec.upto handStoresSpec)

/-- 'racelaw15.HandTwice', WHERE WHAT IT READS IS OF BULK AT MOST 1048576: true; the input reads as it did. -/
def handTwiceUptoRow : OpenClaim := { program := "ytipacjbegfingaa", sum := "88b6d10d30ef3fb8f742d5e1fb66fec2fa44443b18e450030d4359c567707670", func := "headrace/racelaw15.HandTwice", spec := "handTwice", inPlace := ["math.Float64frombits", "math.Float64bits"], unfollowed := true, recurses := true, plainKeys := false, apart := false, narrowed := true }
def HandTwiceUptoSaid : Prop := handTwiceUptoRow.holds Try.pinned (OpenSpec.upto handTwiceSpec)

/-- 'racelaw15.HandOwn', WHERE WHAT IT READS IS OF BULK AT MOST 1048576: true; the input reads as it did. -/
def handOwnUptoRow : OpenClaim := { program := "ytipacjbegfingaa", sum := "88b6d10d30ef3fb8f742d5e1fb66fec2fa44443b18e450030d4359c567707670", func := "headrace/racelaw15.HandOwn", spec := "handOwn", inPlace := ["math.Float64frombits", "math.Float64bits"], unfollowed := true, recurses := true, plainKeys := false, apart := false, narrowed := true }
def HandOwnUptoSaid : Prop := handOwnUptoRow.holds Try.pinned (OpenSpec.upto handOwnSpec)

end Rows
end Go.Proofs.Ytipacjbegfingaa
