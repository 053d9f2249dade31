/- Functions of the program as plain Lean functions, each with a proof that the program's call comes to what it says; and rows of statements over them. No condition but those that the theorems name. Written by a program of this session (myprint.py, over the kit's print with patches of its own). -/
import Derived.Test.YtepbebelbcbciaaBbDef
import Derived.Test.YtepbebelbcbciaaBbWalk
import Derived.Test.YtepbebelbcbciaaOpen
namespace Go.Proofs.Ytepbebelbcbciaa.Q
open Go.RowKit Go.Proofs.YtepbebelbcbciaaW.PrintWords Go.Proofs.YtepbebelbcbciaaW.PrintLast
set_option linter.unusedVariables false
structure S23 where
 f0 : Int
 f1 : Int
 f2 : Int
 f3 : Int
 f4 : Int
def k23 : Kd S23 := Kd.iso (Kd.pair (Kd.int .i64) (Kd.pair (Kd.int .i64) (Kd.pair (Kd.int .i64) (Kd.pair (Kd.int .i64) (Kd.int .i64))))) (fun x : S23 => (x.f0, x.f1, x.f2, x.f3, x.f4))
theorem k23_open {w : World} {x : S23} {cs : List Value} (h : k23.K w x cs) : cs = [.int .i64 x.f0, .int .i64 x.f1, .int .i64 x.f2, .int .i64 x.f3, .int .i64 x.f4] := by
  obtain ⟨_, _, rfl, rfl, ⟨_, _, rfl, rfl, ⟨_, _, rfl, rfl, ⟨_, _, rfl, rfl, rfl⟩⟩⟩⟩ := h
  rfl
def wf23 (x : S23) : Prop := (WfInt .i64) x.f0 ∧ (WfInt .i64) x.f1 ∧ (WfInt .i64) x.f2 ∧ (WfInt .i64) x.f3 ∧ (WfInt .i64) x.f4
def wf27 (x : S27) : Prop := (WfRow 24 (WfRow 24 (WfRow 4 (WfInt .i32)))) x.f0 ∧ (WfRow 24 (WfRow 24 (WfRow 4 (WfInt .i32)))) x.f1
def wf29 (x : S29) : Prop := (WfRow 8 (WfInt .i64)) x.f0 ∧ (WfInt .i64) x.f1 ∧ wf27 x.f2
/-- The one pure statement of tillerlaw11_BlockBytes. -/
def tillerlaw11_BlockBytes.PureG : Prop := ∀ (x0 : S23) (x1 : S29) (x2 : ByteArray), wf23 x0 → wf29 x1 → WfStr x2 → ∃ k, tillerlaw11_BlockBytes.f k x0.f0 x0.f1 x0.f2 x0.f3 x0.f4 x1.f0 x1.f1 x1.f2.f0 x1.f2.f1 x2 = some true
end Go.Proofs.Ytepbebelbcbciaa.Q
