/-
  No cell of these rows narrows 'for every input' (looked for: loops, veiled, ifaces, maps, wideKeys, modest, calm, conditions, laid).
  DERIVED. THE GIVEN ROWS OF THIS SEAT. 8 by the template 'for every input the law returns true; each argument reads behind the call as it read before'; 0 by the template 'total and deterministic' (their statements: YtepbebelbcbciaaTotals.lean).
  GIVEN WITH THE SEED: the statements are not yours to turn. If you find one false, say at which input.
  Laid BY PROGRAM, IN A SANDBOX (cutbox-rows.mjs): the forced cells as the released guide's own fill.sh prints them over the translation 4fdee8aee1b48fdd… (all of the seat's roots in one cut). By AI agents, Wed Nov 11 2026. No macro, syntax, notation, axiom, sorry.
-/
import Derived.Test.YtepbebelbcbciaaChecked
import GoSem.Claim
import GoSem.ClaimJoined
import GoSem.ClaimMapViews
import Derived.JoinedTies
import Derived.KernelRfl
namespace Go.Proofs.Ytepbebelbcbciaa
/- THE CELL 'sum', in the pinned program and in every row, IS THE sha256 OF THE DUMP (.gsa) THAT YtepbebelbcbciaaProg.lean LOADS. Nothing in Lean hashes anything: it is a label: what it is worth is what the hold of that sum in a sandbox is worth. -/
noncomputable def Try.pinned : Pinned := { name := "ytepbebelbcbciaa", sum := "4fdee8aee1b48fddc04c70590856875a40496be5ac31b49b1361d5d1dea7ea08", checked := Try.checked }
namespace Rows
def none {H : Type} : Left H := { results := [], args := [] }

/-- 'tillerlaw11.BlockBytes': WHATEVER THE INPUT: true; the input reads as it did. -/
def blockBytesSpec : ChangeSpec := { name := "blockBytes", fn := fun _ => fun
  | [d1, d2, d3] => { results := [.lit (.bool true)], args := [d1, d2, d3] }
  | _ => none }
def blockBytesRow : OpenClaim := { program := "ytepbebelbcbciaa", sum := "4fdee8aee1b48fddc04c70590856875a40496be5ac31b49b1361d5d1dea7ea08", func := "tiller/tillerlaw11.BlockBytes", spec := "blockBytes", unfollowed := true, recurses := true, apart := false }
def BlockBytesSaid : Prop := blockBytesRow.holds Try.pinned (OpenSpec.ofChange blockBytesSpec)

/-- ITS FALSE NEIGHBOUR: 'it returns false'. Refute it at one input. -/
def blockBytesWrong : ChangeSpec := { name := "blockBytes", fn := fun _ => fun
  | [d1, d2, d3] => { results := [.lit (.bool false)], args := [d1, d2, d3] }
  | _ => none }
def BlockBytesWrongFalsely : Prop := blockBytesRow.holds Try.pinned (OpenSpec.ofChange blockBytesWrong)

/-- 'tillerlaw11.BlockJoins': WHATEVER THE INPUT: true; the input reads as it did. -/
def blockJoinsSpec : ChangeSpec := { name := "blockJoins", fn := fun _ => fun
  | [d1, d2] => { results := [.lit (.bool true)], args := [d1, d2] }
  | _ => none }
def blockJoinsRow : OpenClaim := { program := "ytepbebelbcbciaa", sum := "4fdee8aee1b48fddc04c70590856875a40496be5ac31b49b1361d5d1dea7ea08", func := "tiller/tillerlaw11.BlockJoins", spec := "blockJoins", unfollowed := true, recurses := true, apart := false }
def BlockJoinsSaid : Prop := blockJoinsRow.holds Try.pinned (OpenSpec.ofChange blockJoinsSpec)

/-- ITS FALSE NEIGHBOUR: 'it returns false'. Refute it at one input. -/
def blockJoinsWrong : ChangeSpec := { name := "blockJoins", fn := fun _ => fun
  | [d1, d2] => { results := [.lit (.bool false)], args := [d1, d2] }
  | _ => none }
def BlockJoinsWrongFalsely : Prop := blockJoinsRow.holds Try.pinned (OpenSpec.ofChange blockJoinsWrong)

/-- 'tillerlaw07.HeadsAttend': WHATEVER THE INPUT: true; the input reads as it did. -/
def headsAttendSpec : ChangeSpec := { name := "headsAttend", fn := fun _ => fun
  | [d1, d2, d3, d4] => { results := [.lit (.bool true)], args := [d1, d2, d3, d4] }
  | _ => none }
def headsAttendRow : OpenClaim := { program := "ytepbebelbcbciaa", sum := "4fdee8aee1b48fddc04c70590856875a40496be5ac31b49b1361d5d1dea7ea08", func := "tiller/tillerlaw07.HeadsAttend", spec := "headsAttend", recurses := true, apart := false }
def HeadsAttendSaid : Prop := headsAttendRow.holds Try.pinned (OpenSpec.ofChange headsAttendSpec)

/-- ITS FALSE NEIGHBOUR: 'it returns false'. Refute it at one input. -/
def headsAttendWrong : ChangeSpec := { name := "headsAttend", fn := fun _ => fun
  | [d1, d2, d3, d4] => { results := [.lit (.bool false)], args := [d1, d2, d3, d4] }
  | _ => none }
def HeadsAttendWrongFalsely : Prop := headsAttendRow.holds Try.pinned (OpenSpec.ofChange headsAttendWrong)

/-- 'tillerlaw07.HeadsScores': WHATEVER THE INPUT: true; the input reads as it did. -/
def headsScoresSpec : ChangeSpec := { name := "headsScores", fn := fun _ => fun
  | [d1, d2] => { results := [.lit (.bool true)], args := [d1, d2] }
  | _ => none }
def headsScoresRow : OpenClaim := { program := "ytepbebelbcbciaa", sum := "4fdee8aee1b48fddc04c70590856875a40496be5ac31b49b1361d5d1dea7ea08", func := "tiller/tillerlaw07.HeadsScores", spec := "headsScores", recurses := true, apart := false }
def HeadsScoresSaid : Prop := headsScoresRow.holds Try.pinned (OpenSpec.ofChange headsScoresSpec)

/-- ITS FALSE NEIGHBOUR: 'it returns false'. Refute it at one input. -/
def headsScoresWrong : ChangeSpec := { name := "headsScores", fn := fun _ => fun
  | [d1, d2] => { results := [.lit (.bool false)], args := [d1, d2] }
  | _ => none }
def HeadsScoresWrongFalsely : Prop := headsScoresRow.holds Try.pinned (OpenSpec.ofChange headsScoresWrong)

/-- 'tillerlaw07.HeadsApart': WHATEVER THE INPUT: true; the input reads as it did. -/
def headsApartSpec : ChangeSpec := { name := "headsApart", fn := fun _ => fun
  | [d1, d2, d3, d4] => { results := [.lit (.bool true)], args := [d1, d2, d3, d4] }
  | _ => none }
def headsApartRow : OpenClaim := { program := "ytepbebelbcbciaa", sum := "4fdee8aee1b48fddc04c70590856875a40496be5ac31b49b1361d5d1dea7ea08", func := "tiller/tillerlaw07.HeadsApart", spec := "headsApart", apart := false }
def HeadsApartSaid : Prop := headsApartRow.holds Try.pinned (OpenSpec.ofChange headsApartSpec)

/-- ITS FALSE NEIGHBOUR: 'it returns false'. Refute it at one input. -/
def headsApartWrong : ChangeSpec := { name := "headsApart", fn := fun _ => fun
  | [d1, d2, d3, d4] => { results := [.lit (.bool false)], args := [d1, d2, d3, d4] }
  | _ => none }
def HeadsApartWrongFalsely : Prop := headsApartRow.holds Try.pinned (OpenSpec.ofChange headsApartWrong)

/-- 'tillerlaw07.HeadsOne': WHATEVER THE INPUT: true; the input reads as it did. -/
def headsOneSpec : ChangeSpec := { name := "headsOne", fn := fun _ => fun
  | [d1, d2, d3, d4, d5] => { results := [.lit (.bool true)], args := [d1, d2, d3, d4, d5] }
  | _ => none }
def headsOneRow : OpenClaim := { program := "ytepbebelbcbciaa", sum := "4fdee8aee1b48fddc04c70590856875a40496be5ac31b49b1361d5d1dea7ea08", func := "tiller/tillerlaw07.HeadsOne", spec := "headsOne", apart := false }
def HeadsOneSaid : Prop := headsOneRow.holds Try.pinned (OpenSpec.ofChange headsOneSpec)

/-- ITS FALSE NEIGHBOUR: 'it returns false'. Refute it at one input. -/
def headsOneWrong : ChangeSpec := { name := "headsOne", fn := fun _ => fun
  | [d1, d2, d3, d4, d5] => { results := [.lit (.bool false)], args := [d1, d2, d3, d4, d5] }
  | _ => none }
def HeadsOneWrongFalsely : Prop := headsOneRow.holds Try.pinned (OpenSpec.ofChange headsOneWrong)

/-- 'tillerlaw07.HeadsTurns': WHATEVER THE INPUT: true; the input reads as it did. -/
def headsTurnsSpec : ChangeSpec := { name := "headsTurns", fn := fun _ => fun
  | [d1, d2, d3, d4, d5, d6] => { results := [.lit (.bool true)], args := [d1, d2, d3, d4, d5, d6] }
  | _ => none }
def headsTurnsRow : OpenClaim := { program := "ytepbebelbcbciaa", sum := "4fdee8aee1b48fddc04c70590856875a40496be5ac31b49b1361d5d1dea7ea08", func := "tiller/tillerlaw07.HeadsTurns", spec := "headsTurns", apart := false }
def HeadsTurnsSaid : Prop := headsTurnsRow.holds Try.pinned (OpenSpec.ofChange headsTurnsSpec)

/-- ITS FALSE NEIGHBOUR: 'it returns false'. Refute it at one input. -/
def headsTurnsWrong : ChangeSpec := { name := "headsTurns", fn := fun _ => fun
  | [d1, d2, d3, d4, d5, d6] => { results := [.lit (.bool false)], args := [d1, d2, d3, d4, d5, d6] }
  | _ => none }
def HeadsTurnsWrongFalsely : Prop := headsTurnsRow.holds Try.pinned (OpenSpec.ofChange headsTurnsWrong)

/-- 'tillerlaw07.HeadsWithin': WHATEVER THE INPUT: true; the input reads as it did. -/
def headsWithinSpec : ChangeSpec := { name := "headsWithin", fn := fun _ => fun
  | [d1, d2, d3, d4] => { results := [.lit (.bool true)], args := [d1, d2, d3, d4] }
  | _ => none }
def headsWithinRow : OpenClaim := { program := "ytepbebelbcbciaa", sum := "4fdee8aee1b48fddc04c70590856875a40496be5ac31b49b1361d5d1dea7ea08", func := "tiller/tillerlaw07.HeadsWithin", spec := "headsWithin", apart := false }
def HeadsWithinSaid : Prop := headsWithinRow.holds Try.pinned (OpenSpec.ofChange headsWithinSpec)

/-- ITS FALSE NEIGHBOUR: 'it returns false'. Refute it at one input. -/
def headsWithinWrong : ChangeSpec := { name := "headsWithin", fn := fun _ => fun
  | [d1, d2, d3, d4] => { results := [.lit (.bool false)], args := [d1, d2, d3, d4] }
  | _ => none }
def HeadsWithinWrongFalsely : Prop := headsWithinRow.holds Try.pinned (OpenSpec.ofChange headsWithinWrong)

/- THE SECOND FORM. 'bulk': how many values and letters a reading holds, each counted each time it is reached (what is shared counts as often as it is met; a slice's spare places count too). A statement '..UptoSaid' is the law's where the arguments, and the package variables that the reading takes, are together of bulk at most 1048576: NARROWER than '..Said'. Prove '..Said' where nothing that the law and all that it calls make is longer than what came in: it says more and counts as full. Else prove '..UptoSaid'. A law counts once. -/
mutual
def uptoBulk {H : Type} : DataW H → Nat
  | .lit (.string bytes) => bytes.length + 1
  | .lit _ => 1
  | .nil => 1
  | .ptr d => uptoBulk d + 1
  | .slice elems spare => uptoBulkAll elems + uptoBulkAll spare + 1
  | .agg parts => uptoBulkAll parts + 1
  | .iface _ d => uptoBulk d + 1
  | .map entries => uptoBulkEntries entries + 1
  | .held _ => 1
def uptoBulkAll {H : Type} : List (DataW H) → Nat
  | [] => 0
  | d :: r => uptoBulk d + uptoBulkAll r
def uptoBulkEntries {H : Type} : List (Lit × DataW H) → Nat
  | [] => 0
  | x :: r => uptoBulkEntry x + uptoBulkEntries r
def uptoBulkEntry {H : Type} : Lit × DataW H → Nat
  | (.string bytes, d) => bytes.length + uptoBulk d + 1
  | (_, d) => uptoBulk d + 1
 end
def uptoSmall : (H : Type) → List (DataW H) → Bool := fun _ ds => decide (uptoBulkAll ds ≤ 1048576)
def OpenSpec.upto (s : _root_.Go.ChangeSpec) : _root_.Go.OpenSpec := { _root_.Go.OpenSpec.ofChange s with cond := some uptoSmall }

/-- 'tillerlaw11.BlockBytes', WHERE WHAT IT READS IS OF BULK AT MOST 1048576: true; the input reads as it did. -/
def blockBytesUptoRow : OpenClaim := { program := "ytepbebelbcbciaa", sum := "4fdee8aee1b48fddc04c70590856875a40496be5ac31b49b1361d5d1dea7ea08", func := "tiller/tillerlaw11.BlockBytes", spec := "blockBytes", unfollowed := true, recurses := true, apart := false, narrowed := true }
def BlockBytesUptoSaid : Prop := blockBytesUptoRow.holds Try.pinned (OpenSpec.upto blockBytesSpec)

/-- 'tillerlaw11.BlockJoins', WHERE WHAT IT READS IS OF BULK AT MOST 1048576: true; the input reads as it did. -/
def blockJoinsUptoRow : OpenClaim := { program := "ytepbebelbcbciaa", sum := "4fdee8aee1b48fddc04c70590856875a40496be5ac31b49b1361d5d1dea7ea08", func := "tiller/tillerlaw11.BlockJoins", spec := "blockJoins", unfollowed := true, recurses := true, apart := false, narrowed := true }
def BlockJoinsUptoSaid : Prop := blockJoinsUptoRow.holds Try.pinned (OpenSpec.upto blockJoinsSpec)

/-- 'tillerlaw07.HeadsAttend', WHERE WHAT IT READS IS OF BULK AT MOST 1048576: true; the input reads as it did. -/
def headsAttendUptoRow : OpenClaim := { program := "ytepbebelbcbciaa", sum := "4fdee8aee1b48fddc04c70590856875a40496be5ac31b49b1361d5d1dea7ea08", func := "tiller/tillerlaw07.HeadsAttend", spec := "headsAttend", recurses := true, apart := false, narrowed := true }
def HeadsAttendUptoSaid : Prop := headsAttendUptoRow.holds Try.pinned (OpenSpec.upto headsAttendSpec)

/-- 'tillerlaw07.HeadsScores', WHERE WHAT IT READS IS OF BULK AT MOST 1048576: true; the input reads as it did. -/
def headsScoresUptoRow : OpenClaim := { program := "ytepbebelbcbciaa", sum := "4fdee8aee1b48fddc04c70590856875a40496be5ac31b49b1361d5d1dea7ea08", func := "tiller/tillerlaw07.HeadsScores", spec := "headsScores", recurses := true, apart := false, narrowed := true }
def HeadsScoresUptoSaid : Prop := headsScoresUptoRow.holds Try.pinned (OpenSpec.upto headsScoresSpec)

/-- 'tillerlaw07.HeadsApart', WHERE WHAT IT READS IS OF BULK AT MOST 1048576: true; the input reads as it did. -/
def headsApartUptoRow : OpenClaim := { program := "ytepbebelbcbciaa", sum := "4fdee8aee1b48fddc04c70590856875a40496be5ac31b49b1361d5d1dea7ea08", func := "tiller/tillerlaw07.HeadsApart", spec := "headsApart", apart := false, narrowed := true }
def HeadsApartUptoSaid : Prop := headsApartUptoRow.holds Try.pinned (OpenSpec.upto headsApartSpec)

/-- 'tillerlaw07.HeadsOne', WHERE WHAT IT READS IS OF BULK AT MOST 1048576: true; the input reads as it did. -/
def headsOneUptoRow : OpenClaim := { program := "ytepbebelbcbciaa", sum := "4fdee8aee1b48fddc04c70590856875a40496be5ac31b49b1361d5d1dea7ea08", func := "tiller/tillerlaw07.HeadsOne", spec := "headsOne", apart := false, narrowed := true }
def HeadsOneUptoSaid : Prop := headsOneUptoRow.holds Try.pinned (OpenSpec.upto headsOneSpec)

/-- 'tillerlaw07.HeadsTurns', WHERE WHAT IT READS IS OF BULK AT MOST 1048576: true; the input reads as it did. -/
def headsTurnsUptoRow : OpenClaim := { program := "ytepbebelbcbciaa", sum := "4fdee8aee1b48fddc04c70590856875a40496be5ac31b49b1361d5d1dea7ea08", func := "tiller/tillerlaw07.HeadsTurns", spec := "headsTurns", apart := false, narrowed := true }
def HeadsTurnsUptoSaid : Prop := headsTurnsUptoRow.holds Try.pinned (OpenSpec.upto headsTurnsSpec)

/-- 'tillerlaw07.HeadsWithin', WHERE WHAT IT READS IS OF BULK AT MOST 1048576: true; the input reads as it did. -/
def headsWithinUptoRow : OpenClaim := { program := "ytepbebelbcbciaa", sum := "4fdee8aee1b48fddc04c70590856875a40496be5ac31b49b1361d5d1dea7ea08", func := "tiller/tillerlaw07.HeadsWithin", spec := "headsWithin", apart := false, narrowed := true }
def HeadsWithinUptoSaid : Prop := headsWithinUptoRow.holds Try.pinned (OpenSpec.upto headsWithinSpec)

end Rows
end Go.Proofs.Ytepbebelbcbciaa
