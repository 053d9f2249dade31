/-
  No cell of these rows narrows 'for every input' (looked for: loops, veiled, ifaces, maps, wideKeys, modest, calm, conditions, laid).
  DERIVED. THE GIVEN ROWS OF THIS SEAT. 8 by the template 'for every input the law returns true; each argument reads behind the call as it read before'; 0 by the template 'total and deterministic' (their statements: YtjihjjbieeofdaaTotals.lean).
  GIVEN WITH THE SEED: the statements are not yours to turn. If you find one false, say at which input.
  Laid BY PROGRAM, IN A SANDBOX (cutbox-rows.mjs): the forced cells as the released guide's own fill.sh prints them over the translation cd66f8c7e2aa2035… (all of the seat's roots in one cut). By AI agents, Wed Nov 11 2026. No macro, syntax, notation, axiom, sorry.
-/
import Derived.Test.YtjihjjbieeofdaaChecked
import GoSem.Claim
import GoSem.ClaimJoined
import GoSem.ClaimMapViews
import Derived.JoinedTies
import Derived.KernelRfl
namespace Go.Proofs.Ytjihjjbieeofdaa
/- THE CELL 'sum', in the pinned program and in every row, IS THE sha256 OF THE DUMP (.gsa) THAT YtjihjjbieeofdaaProg.lean LOADS. Nothing in Lean hashes anything: it is a label: what it is worth is what the hold of that sum in a sandbox is worth. -/
noncomputable def Try.pinned : Pinned := { name := "ytjihjjbieeofdaa", sum := "cd66f8c7e2aa203552d6ffadf03242f2ae423f9ccf771206b6d12f5eb68a9293", checked := Try.checked }
namespace Rows
def none {H : Type} : Left H := { results := [], args := [] }

/-- 'tillerlaw11.BlockJoins': WHATEVER THE INPUT: true; the input reads as it did. -/
def blockJoinsSpec : ChangeSpec := { name := "blockJoins", fn := fun _ => fun
  | [d1, d2] => { results := [.lit (.bool true)], args := [d1, d2] }
  | _ => none }
def blockJoinsRow : OpenClaim := { program := "ytjihjjbieeofdaa", sum := "cd66f8c7e2aa203552d6ffadf03242f2ae423f9ccf771206b6d12f5eb68a9293", func := "tiller/tillerlaw11.BlockJoins", spec := "blockJoins", unfollowed := true, recurses := true, apart := false }
def BlockJoinsSaid : Prop := blockJoinsRow.holds Try.pinned (OpenSpec.ofChange blockJoinsSpec)

/-- ITS FALSE NEIGHBOUR: 'it returns false'. Refute it at one input. -/
def blockJoinsWrong : ChangeSpec := { name := "blockJoins", fn := fun _ => fun
  | [d1, d2] => { results := [.lit (.bool false)], args := [d1, d2] }
  | _ => none }
def BlockJoinsWrongFalsely : Prop := blockJoinsRow.holds Try.pinned (OpenSpec.ofChange blockJoinsWrong)

/-- 'tillerlaw10.GreedyAsks': WHATEVER THE INPUT: true; the input reads as it did. -/
def greedyAsksSpec : ChangeSpec := { name := "greedyAsks", fn := fun _ => fun
  | [d1, d2, d3, d4, d5] => { results := [.lit (.bool true)], args := [d1, d2, d3, d4, d5] }
  | _ => none }
def greedyAsksRow : OpenClaim := { program := "ytjihjjbieeofdaa", sum := "cd66f8c7e2aa203552d6ffadf03242f2ae423f9ccf771206b6d12f5eb68a9293", func := "tiller/tillerlaw10.GreedyAsks", spec := "greedyAsks", apart := false }
def GreedyAsksSaid : Prop := greedyAsksRow.holds Try.pinned (OpenSpec.ofChange greedyAsksSpec)

/-- ITS FALSE NEIGHBOUR: 'it returns false'. Refute it at one input. -/
def greedyAsksWrong : ChangeSpec := { name := "greedyAsks", fn := fun _ => fun
  | [d1, d2, d3, d4, d5] => { results := [.lit (.bool false)], args := [d1, d2, d3, d4, d5] }
  | _ => none }
def GreedyAsksWrongFalsely : Prop := greedyAsksRow.holds Try.pinned (OpenSpec.ofChange greedyAsksWrong)

/-- 'tillerlaw10.GreedyRuns': WHATEVER THE INPUT: true; the input reads as it did. -/
def greedyRunsSpec : ChangeSpec := { name := "greedyRuns", fn := fun _ => fun
  | [d1, d2, d3, d4] => { results := [.lit (.bool true)], args := [d1, d2, d3, d4] }
  | _ => none }
def greedyRunsRow : OpenClaim := { program := "ytjihjjbieeofdaa", sum := "cd66f8c7e2aa203552d6ffadf03242f2ae423f9ccf771206b6d12f5eb68a9293", func := "tiller/tillerlaw10.GreedyRuns", spec := "greedyRuns", recurses := true, apart := false }
def GreedyRunsSaid : Prop := greedyRunsRow.holds Try.pinned (OpenSpec.ofChange greedyRunsSpec)

/-- ITS FALSE NEIGHBOUR: 'it returns false'. Refute it at one input. -/
def greedyRunsWrong : ChangeSpec := { name := "greedyRuns", fn := fun _ => fun
  | [d1, d2, d3, d4] => { results := [.lit (.bool false)], args := [d1, d2, d3, d4] }
  | _ => none }
def GreedyRunsWrongFalsely : Prop := greedyRunsRow.holds Try.pinned (OpenSpec.ofChange greedyRunsWrong)

/-- 'tillerlaw10.GreedyParts': WHATEVER THE INPUT: true; the input reads as it did. -/
def greedyPartsSpec : ChangeSpec := { name := "greedyParts", fn := fun _ => fun
  | [d1, d2, d3, d4, d5] => { results := [.lit (.bool true)], args := [d1, d2, d3, d4, d5] }
  | _ => none }
def greedyPartsRow : OpenClaim := { program := "ytjihjjbieeofdaa", sum := "cd66f8c7e2aa203552d6ffadf03242f2ae423f9ccf771206b6d12f5eb68a9293", func := "tiller/tillerlaw10.GreedyParts", spec := "greedyParts", apart := false }
def GreedyPartsSaid : Prop := greedyPartsRow.holds Try.pinned (OpenSpec.ofChange greedyPartsSpec)

/-- ITS FALSE NEIGHBOUR: 'it returns false'. Refute it at one input. -/
def greedyPartsWrong : ChangeSpec := { name := "greedyParts", fn := fun _ => fun
  | [d1, d2, d3, d4, d5] => { results := [.lit (.bool false)], args := [d1, d2, d3, d4, d5] }
  | _ => none }
def GreedyPartsWrongFalsely : Prop := greedyPartsRow.holds Try.pinned (OpenSpec.ofChange greedyPartsWrong)

/-- 'tillerlaw10.GreedyOver': WHATEVER THE INPUT: true; the input reads as it did. -/
def greedyOverSpec : ChangeSpec := { name := "greedyOver", fn := fun _ => fun
  | [d1, d2, d3, d4] => { results := [.lit (.bool true)], args := [d1, d2, d3, d4] }
  | _ => none }
def greedyOverRow : OpenClaim := { program := "ytjihjjbieeofdaa", sum := "cd66f8c7e2aa203552d6ffadf03242f2ae423f9ccf771206b6d12f5eb68a9293", func := "tiller/tillerlaw10.GreedyOver", spec := "greedyOver", apart := false }
def GreedyOverSaid : Prop := greedyOverRow.holds Try.pinned (OpenSpec.ofChange greedyOverSpec)

/-- ITS FALSE NEIGHBOUR: 'it returns false'. Refute it at one input. -/
def greedyOverWrong : ChangeSpec := { name := "greedyOver", fn := fun _ => fun
  | [d1, d2, d3, d4] => { results := [.lit (.bool false)], args := [d1, d2, d3, d4] }
  | _ => none }
def GreedyOverWrongFalsely : Prop := greedyOverRow.holds Try.pinned (OpenSpec.ofChange greedyOverWrong)

/-- 'tillerlaw10.GreedyBest': WHATEVER THE INPUT: true; the input reads as it did. -/
def greedyBestSpec : ChangeSpec := { name := "greedyBest", fn := fun _ => fun
  | [d1, d2, d3, d4] => { results := [.lit (.bool true)], args := [d1, d2, d3, d4] }
  | _ => none }
def greedyBestRow : OpenClaim := { program := "ytjihjjbieeofdaa", sum := "cd66f8c7e2aa203552d6ffadf03242f2ae423f9ccf771206b6d12f5eb68a9293", func := "tiller/tillerlaw10.GreedyBest", spec := "greedyBest", apart := false }
def GreedyBestSaid : Prop := greedyBestRow.holds Try.pinned (OpenSpec.ofChange greedyBestSpec)

/-- ITS FALSE NEIGHBOUR: 'it returns false'. Refute it at one input. -/
def greedyBestWrong : ChangeSpec := { name := "greedyBest", fn := fun _ => fun
  | [d1, d2, d3, d4] => { results := [.lit (.bool false)], args := [d1, d2, d3, d4] }
  | _ => none }
def GreedyBestWrongFalsely : Prop := greedyBestRow.holds Try.pinned (OpenSpec.ofChange greedyBestWrong)

/-- 'tillerlaw11.BlockSizes': WHATEVER THE INPUT: true; the input reads as it did. -/
def blockSizesSpec : ChangeSpec := { name := "blockSizes", fn := fun _ => fun
  | [d1, d2, d3, d4, d5] => { results := [.lit (.bool true)], args := [d1, d2, d3, d4, d5] }
  | _ => none }
def blockSizesRow : OpenClaim := { program := "ytjihjjbieeofdaa", sum := "cd66f8c7e2aa203552d6ffadf03242f2ae423f9ccf771206b6d12f5eb68a9293", func := "tiller/tillerlaw11.BlockSizes", spec := "blockSizes", unfollowed := true, recurses := true, apart := false }
def BlockSizesSaid : Prop := blockSizesRow.holds Try.pinned (OpenSpec.ofChange blockSizesSpec)

/-- ITS FALSE NEIGHBOUR: 'it returns false'. Refute it at one input. -/
def blockSizesWrong : ChangeSpec := { name := "blockSizes", fn := fun _ => fun
  | [d1, d2, d3, d4, d5] => { results := [.lit (.bool false)], args := [d1, d2, d3, d4, d5] }
  | _ => none }
def BlockSizesWrongFalsely : Prop := blockSizesRow.holds Try.pinned (OpenSpec.ofChange blockSizesWrong)

/-- 'tillerlaw11.BlockRides': WHATEVER THE INPUT: true; the input reads as it did. -/
def blockRidesSpec : ChangeSpec := { name := "blockRides", fn := fun _ => fun
  | [d1, d2, d3, d4, d5] => { results := [.lit (.bool true)], args := [d1, d2, d3, d4, d5] }
  | _ => none }
def blockRidesRow : OpenClaim := { program := "ytjihjjbieeofdaa", sum := "cd66f8c7e2aa203552d6ffadf03242f2ae423f9ccf771206b6d12f5eb68a9293", func := "tiller/tillerlaw11.BlockRides", spec := "blockRides", unfollowed := true, recurses := true, apart := false }
def BlockRidesSaid : Prop := blockRidesRow.holds Try.pinned (OpenSpec.ofChange blockRidesSpec)

/-- ITS FALSE NEIGHBOUR: 'it returns false'. Refute it at one input. -/
def blockRidesWrong : ChangeSpec := { name := "blockRides", fn := fun _ => fun
  | [d1, d2, d3, d4, d5] => { results := [.lit (.bool false)], args := [d1, d2, d3, d4, d5] }
  | _ => none }
def BlockRidesWrongFalsely : Prop := blockRidesRow.holds Try.pinned (OpenSpec.ofChange blockRidesWrong)

/- THE SECOND FORM. 'bulk': how many values and letters a reading holds, each counted each time it is reached (what is shared counts as often as it is met; a slice's spare places count too). A statement '..UptoSaid' is the law's where the arguments, and the package variables that the reading takes, are together of bulk at most 1048576: NARROWER than '..Said'. Prove '..Said' where nothing that the law and all that it calls make is longer than what came in: it says more and counts as full. Else prove '..UptoSaid'. A law counts once. -/
mutual
def uptoBulk {H : Type} : DataW H → Nat
  | .lit (.string bytes) => bytes.length + 1
  | .lit _ => 1
  | .nil => 1
  | .ptr d => uptoBulk d + 1
  | .slice elems spare => uptoBulkAll elems + uptoBulkAll spare + 1
  | .agg parts => uptoBulkAll parts + 1
  | .iface _ d => uptoBulk d + 1
  | .map entries => uptoBulkEntries entries + 1
  | .held _ => 1
def uptoBulkAll {H : Type} : List (DataW H) → Nat
  | [] => 0
  | d :: r => uptoBulk d + uptoBulkAll r
def uptoBulkEntries {H : Type} : List (Lit × DataW H) → Nat
  | [] => 0
  | x :: r => uptoBulkEntry x + uptoBulkEntries r
def uptoBulkEntry {H : Type} : Lit × DataW H → Nat
  | (.string bytes, d) => bytes.length + uptoBulk d + 1
  | (_, d) => uptoBulk d + 1
 end
def uptoSmall : (H : Type) → List (DataW H) → Bool := fun _ ds => decide (uptoBulkAll ds ≤ 1048576)
def OpenSpec.upto (s : _root_.Go.ChangeSpec) : _root_.Go.OpenSpec := { _root_.Go.OpenSpec.ofChange s with cond := some uptoSmall }

/-- 'tillerlaw11.BlockJoins', WHERE WHAT IT READS IS OF BULK AT MOST 1048576: true; the input reads as it did. -/
def blockJoinsUptoRow : OpenClaim := { program := "ytjihjjbieeofdaa", sum := "cd66f8c7e2aa203552d6ffadf03242f2ae423f9ccf771206b6d12f5eb68a9293", func := "tiller/tillerlaw11.BlockJoins", spec := "blockJoins", unfollowed := true, recurses := true, apart := false, narrowed := true }
def BlockJoinsUptoSaid : Prop := blockJoinsUptoRow.holds Try.pinned (OpenSpec.upto blockJoinsSpec)

/-- 'tillerlaw10.GreedyAsks', WHERE WHAT IT READS IS OF BULK AT MOST 1048576: true; the input reads as it did. -/
def greedyAsksUptoRow : OpenClaim := { program := "ytjihjjbieeofdaa", sum := "cd66f8c7e2aa203552d6ffadf03242f2ae423f9ccf771206b6d12f5eb68a9293", func := "tiller/tillerlaw10.GreedyAsks", spec := "greedyAsks", apart := false, narrowed := true }
def GreedyAsksUptoSaid : Prop := greedyAsksUptoRow.holds Try.pinned (OpenSpec.upto greedyAsksSpec)

/-- 'tillerlaw10.GreedyRuns', WHERE WHAT IT READS IS OF BULK AT MOST 1048576: true; the input reads as it did. -/
def greedyRunsUptoRow : OpenClaim := { program := "ytjihjjbieeofdaa", sum := "cd66f8c7e2aa203552d6ffadf03242f2ae423f9ccf771206b6d12f5eb68a9293", func := "tiller/tillerlaw10.GreedyRuns", spec := "greedyRuns", recurses := true, apart := false, narrowed := true }
def GreedyRunsUptoSaid : Prop := greedyRunsUptoRow.holds Try.pinned (OpenSpec.upto greedyRunsSpec)

/-- 'tillerlaw10.GreedyParts', WHERE WHAT IT READS IS OF BULK AT MOST 1048576: true; the input reads as it did. -/
def greedyPartsUptoRow : OpenClaim := { program := "ytjihjjbieeofdaa", sum := "cd66f8c7e2aa203552d6ffadf03242f2ae423f9ccf771206b6d12f5eb68a9293", func := "tiller/tillerlaw10.GreedyParts", spec := "greedyParts", apart := false, narrowed := true }
def GreedyPartsUptoSaid : Prop := greedyPartsUptoRow.holds Try.pinned (OpenSpec.upto greedyPartsSpec)

/-- 'tillerlaw10.GreedyOver', WHERE WHAT IT READS IS OF BULK AT MOST 1048576: true; the input reads as it did. -/
def greedyOverUptoRow : OpenClaim := { program := "ytjihjjbieeofdaa", sum := "cd66f8c7e2aa203552d6ffadf03242f2ae423f9ccf771206b6d12f5eb68a9293", func := "tiller/tillerlaw10.GreedyOver", spec := "greedyOver", apart := false, narrowed := true }
def GreedyOverUptoSaid : Prop := greedyOverUptoRow.holds Try.pinned (OpenSpec.upto greedyOverSpec)

/-- 'tillerlaw10.GreedyBest', WHERE WHAT IT READS IS OF BULK AT MOST 1048576: true; the input reads as it did. -/
def greedyBestUptoRow : OpenClaim := { program := "ytjihjjbieeofdaa", sum := "cd66f8c7e2aa203552d6ffadf03242f2ae423f9ccf771206b6d12f5eb68a9293", func := "tiller/tillerlaw10.GreedyBest", spec := "greedyBest", apart := false, narrowed := true }
def GreedyBestUptoSaid : Prop := greedyBestUptoRow.holds Try.pinned (OpenSpec.upto greedyBestSpec)

/-- 'tillerlaw11.BlockSizes', WHERE WHAT IT READS IS OF BULK AT MOST 1048576: true; the input reads as it did. -/
def blockSizesUptoRow : OpenClaim := { program := "ytjihjjbieeofdaa", sum := "cd66f8c7e2aa203552d6ffadf03242f2ae423f9ccf771206b6d12f5eb68a9293", func := "tiller/tillerlaw11.BlockSizes", spec := "blockSizes", unfollowed := true, recurses := true, apart := false, narrowed := true }
def BlockSizesUptoSaid : Prop := blockSizesUptoRow.holds Try.pinned (OpenSpec.upto blockSizesSpec)

/-- 'tillerlaw11.BlockRides', WHERE WHAT IT READS IS OF BULK AT MOST 1048576: true; the input reads as it did. -/
def blockRidesUptoRow : OpenClaim := { program := "ytjihjjbieeofdaa", sum := "cd66f8c7e2aa203552d6ffadf03242f2ae423f9ccf771206b6d12f5eb68a9293", func := "tiller/tillerlaw11.BlockRides", spec := "blockRides", unfollowed := true, recurses := true, apart := false, narrowed := true }
def BlockRidesUptoSaid : Prop := blockRidesUptoRow.holds Try.pinned (OpenSpec.upto blockRidesSpec)

end Rows
end Go.Proofs.Ytjihjjbieeofdaa
