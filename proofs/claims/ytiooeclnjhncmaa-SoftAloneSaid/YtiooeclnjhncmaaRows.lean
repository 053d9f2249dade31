/-
  No cell of these rows narrows 'for every input' (looked for: loops, veiled, ifaces, maps, wideKeys, modest, calm, conditions, laid).
  DERIVED. THE GIVEN ROWS OF THIS SEAT. 7 by the template 'for every input the law returns true; each argument reads behind the call as it read before'; 0 by the template 'total and deterministic' (their statements: YtiooeclnjhncmaaTotals.lean).
  GIVEN WITH THE SEED: the statements are not yours to turn. If you find one false, say at which input.
  Laid BY PROGRAM, IN A SANDBOX (cutbox-rows.mjs): the forced cells as the released guide's own fill.sh prints them over the translation c7c33fb856aeb17f… (all of the seat's roots in one cut). By AI agents, Wed Nov 11 2026. No macro, syntax, notation, axiom, sorry.
-/
import Derived.Test.YtiooeclnjhncmaaChecked
import GoSem.Claim
import GoSem.ClaimJoined
import GoSem.ClaimMapViews
import Derived.JoinedTies
import Derived.KernelRfl
namespace Go.Proofs.Ytiooeclnjhncmaa
/- THE CELL 'sum', in the pinned program and in every row, IS THE sha256 OF THE DUMP (.gsa) THAT YtiooeclnjhncmaaProg.lean LOADS. Nothing in Lean hashes anything: it is a label: what it is worth is what the hold of that sum in a sandbox is worth. -/
noncomputable def Try.pinned : Pinned := { name := "ytiooeclnjhncmaa", sum := "c7c33fb856aeb17f47b76059034b07d54af3779fa78852040172b1ab2eb464ac", checked := Try.checked }
namespace Rows
def none {H : Type} : Left H := { results := [], args := [] }

/-- 'tillerlaw05.SoftWeights': WHATEVER THE INPUT: true; the input reads as it did. -/
def softWeightsSpec : ChangeSpec := { name := "softWeights", fn := fun _ => fun
  | [d] => { results := [.lit (.bool true)], args := [d] }
  | _ => none }
def softWeightsRow : OpenClaim := { program := "ytiooeclnjhncmaa", sum := "c7c33fb856aeb17f47b76059034b07d54af3779fa78852040172b1ab2eb464ac", func := "tiller/tillerlaw05.SoftWeights", spec := "softWeights", apart := false }
def SoftWeightsSaid : Prop := softWeightsRow.holds Try.pinned (OpenSpec.ofChange softWeightsSpec)

/-- ITS FALSE NEIGHBOUR: 'it returns false'. Refute it at one input. -/
def softWeightsWrong : ChangeSpec := { name := "softWeights", fn := fun _ => fun
  | [d] => { results := [.lit (.bool false)], args := [d] }
  | _ => none }
def SoftWeightsWrongFalsely : Prop := softWeightsRow.holds Try.pinned (OpenSpec.ofChange softWeightsWrong)

/-- 'tillerlaw05.SoftSums': WHATEVER THE INPUT: true; the input reads as it did. -/
def softSumsSpec : ChangeSpec := { name := "softSums", fn := fun _ => fun
  | [d1, d2, d3] => { results := [.lit (.bool true)], args := [d1, d2, d3] }
  | _ => none }
def softSumsRow : OpenClaim := { program := "ytiooeclnjhncmaa", sum := "c7c33fb856aeb17f47b76059034b07d54af3779fa78852040172b1ab2eb464ac", func := "tiller/tillerlaw05.SoftSums", spec := "softSums", apart := false }
def SoftSumsSaid : Prop := softSumsRow.holds Try.pinned (OpenSpec.ofChange softSumsSpec)

/-- ITS FALSE NEIGHBOUR: 'it returns false'. Refute it at one input. -/
def softSumsWrong : ChangeSpec := { name := "softSums", fn := fun _ => fun
  | [d1, d2, d3] => { results := [.lit (.bool false)], args := [d1, d2, d3] }
  | _ => none }
def SoftSumsWrongFalsely : Prop := softSumsRow.holds Try.pinned (OpenSpec.ofChange softSumsWrong)

/-- 'tillerlaw05.SoftLike': WHATEVER THE INPUT: true; the input reads as it did. -/
def softLikeSpec : ChangeSpec := { name := "softLike", fn := fun _ => fun
  | [d1, d2] => { results := [.lit (.bool true)], args := [d1, d2] }
  | _ => none }
def softLikeRow : OpenClaim := { program := "ytiooeclnjhncmaa", sum := "c7c33fb856aeb17f47b76059034b07d54af3779fa78852040172b1ab2eb464ac", func := "tiller/tillerlaw05.SoftLike", spec := "softLike", apart := false }
def SoftLikeSaid : Prop := softLikeRow.holds Try.pinned (OpenSpec.ofChange softLikeSpec)

/-- ITS FALSE NEIGHBOUR: 'it returns false'. Refute it at one input. -/
def softLikeWrong : ChangeSpec := { name := "softLike", fn := fun _ => fun
  | [d1, d2] => { results := [.lit (.bool false)], args := [d1, d2] }
  | _ => none }
def SoftLikeWrongFalsely : Prop := softLikeRow.holds Try.pinned (OpenSpec.ofChange softLikeWrong)

/-- 'tillerlaw05.SoftMixes': WHATEVER THE INPUT: true; the input reads as it did. -/
def softMixesSpec : ChangeSpec := { name := "softMixes", fn := fun _ => fun
  | [d1, d2] => { results := [.lit (.bool true)], args := [d1, d2] }
  | _ => none }
def softMixesRow : OpenClaim := { program := "ytiooeclnjhncmaa", sum := "c7c33fb856aeb17f47b76059034b07d54af3779fa78852040172b1ab2eb464ac", func := "tiller/tillerlaw05.SoftMixes", spec := "softMixes", recurses := true, apart := false }
def SoftMixesSaid : Prop := softMixesRow.holds Try.pinned (OpenSpec.ofChange softMixesSpec)

/-- ITS FALSE NEIGHBOUR: 'it returns false'. Refute it at one input. -/
def softMixesWrong : ChangeSpec := { name := "softMixes", fn := fun _ => fun
  | [d1, d2] => { results := [.lit (.bool false)], args := [d1, d2] }
  | _ => none }
def SoftMixesWrongFalsely : Prop := softMixesRow.holds Try.pinned (OpenSpec.ofChange softMixesWrong)

/-- 'tillerlaw05.SoftNorms': WHATEVER THE INPUT: true; the input reads as it did. -/
def softNormsSpec : ChangeSpec := { name := "softNorms", fn := fun _ => fun
  | [d1, d2] => { results := [.lit (.bool true)], args := [d1, d2] }
  | _ => none }
def softNormsRow : OpenClaim := { program := "ytiooeclnjhncmaa", sum := "c7c33fb856aeb17f47b76059034b07d54af3779fa78852040172b1ab2eb464ac", func := "tiller/tillerlaw05.SoftNorms", spec := "softNorms", recurses := true, apart := false }
def SoftNormsSaid : Prop := softNormsRow.holds Try.pinned (OpenSpec.ofChange softNormsSpec)

/-- ITS FALSE NEIGHBOUR: 'it returns false'. Refute it at one input. -/
def softNormsWrong : ChangeSpec := { name := "softNorms", fn := fun _ => fun
  | [d1, d2] => { results := [.lit (.bool false)], args := [d1, d2] }
  | _ => none }
def SoftNormsWrongFalsely : Prop := softNormsRow.holds Try.pinned (OpenSpec.ofChange softNormsWrong)

/-- 'tillerlaw05.SoftSize': WHATEVER THE INPUT: true; the input reads as it did. -/
def softSizeSpec : ChangeSpec := { name := "softSize", fn := fun _ => fun
  | [d] => { results := [.lit (.bool true)], args := [d] }
  | _ => none }
def softSizeRow : OpenClaim := { program := "ytiooeclnjhncmaa", sum := "c7c33fb856aeb17f47b76059034b07d54af3779fa78852040172b1ab2eb464ac", func := "tiller/tillerlaw05.SoftSize", spec := "softSize", apart := false }
def SoftSizeSaid : Prop := softSizeRow.holds Try.pinned (OpenSpec.ofChange softSizeSpec)

/-- ITS FALSE NEIGHBOUR: 'it returns false'. Refute it at one input. -/
def softSizeWrong : ChangeSpec := { name := "softSize", fn := fun _ => fun
  | [d] => { results := [.lit (.bool false)], args := [d] }
  | _ => none }
def SoftSizeWrongFalsely : Prop := softSizeRow.holds Try.pinned (OpenSpec.ofChange softSizeWrong)

/-- 'tillerlaw05.SoftAlone': WHATEVER THE INPUT: true; the input reads as it did. -/
def softAloneSpec : ChangeSpec := { name := "softAlone", fn := fun _ => fun
  | [d1, d2, d3] => { results := [.lit (.bool true)], args := [d1, d2, d3] }
  | _ => none }
def softAloneRow : OpenClaim := { program := "ytiooeclnjhncmaa", sum := "c7c33fb856aeb17f47b76059034b07d54af3779fa78852040172b1ab2eb464ac", func := "tiller/tillerlaw05.SoftAlone", spec := "softAlone", apart := false }
def SoftAloneSaid : Prop := softAloneRow.holds Try.pinned (OpenSpec.ofChange softAloneSpec)

/-- ITS FALSE NEIGHBOUR: 'it returns false'. Refute it at one input. -/
def softAloneWrong : ChangeSpec := { name := "softAlone", fn := fun _ => fun
  | [d1, d2, d3] => { results := [.lit (.bool false)], args := [d1, d2, d3] }
  | _ => none }
def SoftAloneWrongFalsely : Prop := softAloneRow.holds Try.pinned (OpenSpec.ofChange softAloneWrong)

/- THE SECOND FORM. 'bulk': how many values and letters a reading holds, each counted each time it is reached (what is shared counts as often as it is met; a slice's spare places count too). A statement '..UptoSaid' is the law's where the arguments, and the package variables that the reading takes, are together of bulk at most 1048576: NARROWER than '..Said'. Prove '..Said' where nothing that the law and all that it calls make is longer than what came in: it says more and counts as full. Else prove '..UptoSaid'. A law counts once. -/
mutual
def uptoBulk {H : Type} : DataW H → Nat
  | .lit (.string bytes) => bytes.length + 1
  | .lit _ => 1
  | .nil => 1
  | .ptr d => uptoBulk d + 1
  | .slice elems spare => uptoBulkAll elems + uptoBulkAll spare + 1
  | .agg parts => uptoBulkAll parts + 1
  | .iface _ d => uptoBulk d + 1
  | .map entries => uptoBulkEntries entries + 1
  | .held _ => 1
def uptoBulkAll {H : Type} : List (DataW H) → Nat
  | [] => 0
  | d :: r => uptoBulk d + uptoBulkAll r
def uptoBulkEntries {H : Type} : List (Lit × DataW H) → Nat
  | [] => 0
  | x :: r => uptoBulkEntry x + uptoBulkEntries r
def uptoBulkEntry {H : Type} : Lit × DataW H → Nat
  | (.string bytes, d) => bytes.length + uptoBulk d + 1
  | (_, d) => uptoBulk d + 1
 end
def uptoSmall : (H : Type) → List (DataW H) → Bool := fun _ ds => decide (uptoBulkAll ds ≤ 1048576)
def OpenSpec.upto (s : _root_.Go.ChangeSpec) : _root_.Go.OpenSpec := { _root_.Go.OpenSpec.ofChange s with cond := some uptoSmall }

/-- 'tillerlaw05.SoftWeights', WHERE WHAT IT READS IS OF BULK AT MOST 1048576: true; the input reads as it did. -/
def softWeightsUptoRow : OpenClaim := { program := "ytiooeclnjhncmaa", sum := "c7c33fb856aeb17f47b76059034b07d54af3779fa78852040172b1ab2eb464ac", func := "tiller/tillerlaw05.SoftWeights", spec := "softWeights", apart := false, narrowed := true }
def SoftWeightsUptoSaid : Prop := softWeightsUptoRow.holds Try.pinned (OpenSpec.upto softWeightsSpec)

/-- 'tillerlaw05.SoftSums', WHERE WHAT IT READS IS OF BULK AT MOST 1048576: true; the input reads as it did. -/
def softSumsUptoRow : OpenClaim := { program := "ytiooeclnjhncmaa", sum := "c7c33fb856aeb17f47b76059034b07d54af3779fa78852040172b1ab2eb464ac", func := "tiller/tillerlaw05.SoftSums", spec := "softSums", apart := false, narrowed := true }
def SoftSumsUptoSaid : Prop := softSumsUptoRow.holds Try.pinned (OpenSpec.upto softSumsSpec)

/-- 'tillerlaw05.SoftLike', WHERE WHAT IT READS IS OF BULK AT MOST 1048576: true; the input reads as it did. -/
def softLikeUptoRow : OpenClaim := { program := "ytiooeclnjhncmaa", sum := "c7c33fb856aeb17f47b76059034b07d54af3779fa78852040172b1ab2eb464ac", func := "tiller/tillerlaw05.SoftLike", spec := "softLike", apart := false, narrowed := true }
def SoftLikeUptoSaid : Prop := softLikeUptoRow.holds Try.pinned (OpenSpec.upto softLikeSpec)

/-- 'tillerlaw05.SoftMixes', WHERE WHAT IT READS IS OF BULK AT MOST 1048576: true; the input reads as it did. -/
def softMixesUptoRow : OpenClaim := { program := "ytiooeclnjhncmaa", sum := "c7c33fb856aeb17f47b76059034b07d54af3779fa78852040172b1ab2eb464ac", func := "tiller/tillerlaw05.SoftMixes", spec := "softMixes", recurses := true, apart := false, narrowed := true }
def SoftMixesUptoSaid : Prop := softMixesUptoRow.holds Try.pinned (OpenSpec.upto softMixesSpec)

/-- 'tillerlaw05.SoftNorms', WHERE WHAT IT READS IS OF BULK AT MOST 1048576: true; the input reads as it did. -/
def softNormsUptoRow : OpenClaim := { program := "ytiooeclnjhncmaa", sum := "c7c33fb856aeb17f47b76059034b07d54af3779fa78852040172b1ab2eb464ac", func := "tiller/tillerlaw05.SoftNorms", spec := "softNorms", recurses := true, apart := false, narrowed := true }
def SoftNormsUptoSaid : Prop := softNormsUptoRow.holds Try.pinned (OpenSpec.upto softNormsSpec)

/-- 'tillerlaw05.SoftSize', WHERE WHAT IT READS IS OF BULK AT MOST 1048576: true; the input reads as it did. -/
def softSizeUptoRow : OpenClaim := { program := "ytiooeclnjhncmaa", sum := "c7c33fb856aeb17f47b76059034b07d54af3779fa78852040172b1ab2eb464ac", func := "tiller/tillerlaw05.SoftSize", spec := "softSize", apart := false, narrowed := true }
def SoftSizeUptoSaid : Prop := softSizeUptoRow.holds Try.pinned (OpenSpec.upto softSizeSpec)

/-- 'tillerlaw05.SoftAlone', WHERE WHAT IT READS IS OF BULK AT MOST 1048576: true; the input reads as it did. -/
def softAloneUptoRow : OpenClaim := { program := "ytiooeclnjhncmaa", sum := "c7c33fb856aeb17f47b76059034b07d54af3779fa78852040172b1ab2eb464ac", func := "tiller/tillerlaw05.SoftAlone", spec := "softAlone", apart := false, narrowed := true }
def SoftAloneUptoSaid : Prop := softAloneUptoRow.holds Try.pinned (OpenSpec.upto softAloneSpec)

end Rows
end Go.Proofs.Ytiooeclnjhncmaa
