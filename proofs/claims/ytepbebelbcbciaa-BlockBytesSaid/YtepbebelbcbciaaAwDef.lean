/- Functions of the program as plain Lean functions, each with a proof that the program's call comes to what it says; and rows of statements over them. No condition but those that the theorems name. Written by a program of this session (myprint.py, over the kit's print with patches of its own). -/
import Derived.Test.YtepbebelbcbciaaQx0
import Derived.Test.YtepbebelbcbciaaQx4
import Derived.Test.YtepbebelbcbciaaQx9
import Derived.Test.YtepbebelbcbciaaReadTwo
import Derived.Test.YtepbebelbcbciaaZWords
namespace Go.Proofs.Ytepbebelbcbciaa.Q
open Go.RowKit Go.Proofs.YtepbebelbcbciaaW.PrintWords Go.Proofs.YtepbebelbcbciaaW.PrintLast Go.Proofs.YtepbebelbcbciaaW.PrintMore
attribute [local go_sem] max2_int min2_int max_two min_two max_three min_three max_four min_four   -- for this text's walks alone
set_option linter.unusedVariables false
set_option linter.unusedSimpArgs false

/-! ### tillerlaw11_awake: function 15 -/
def tillerlaw11_awake.f (k : Nat)  : Option (Bool) := (tillerlaw11_small.f).bind fun bt324 => ((block_Split.f k bt324.1 bt324.2.1 bt324.2.2.1 bt324.2.2.2.1 bt324.2.2.2.2 (([5, 6, 7] : List Int)) (([(([(([1] : List Int)), (([2] : List Int)), (([3] : List Int))] : List (List Int)))] : List (List (List Int)))) (([(([(([4] : List Int)), (([5] : List Int)), (([6] : List Int))] : List (List Int)))] : List (List (List Int)))) 2).bind fun bt329 => ((tillerlaw11_small.f).bind fun bt333 => ((block_Read.f k bt333.1 bt333.2.1 bt333.2.2.1 bt333.2.2.2.1 bt333.2.2.2.2 (⟨#[]⟩ : ByteArray)).bind fun bt338 => ((tillerlaw11_small.f).bind fun bt350 => ((tillerlaw11_ref0.f).bind fun bt355 => ((block_Bytes.f k bt350.1 bt350.2.1 bt350.2.2.1 bt350.2.2.2.1 bt350.2.2.2.2 bt355.1 bt355.2.1 bt355.2.2.1 bt355.2.2.2).bind fun bt365 => (if bt329.2 = 0 then (if bt338.2.2.2.2 = 11 then (if bt365.2 = 0 then (if (bt329.1.length : Int) = 2 then (if 1 < (bt329.1.length : Int) then (if ((rd_T29 bt329.1 1).f1) = 2 then (if (((rd_T29 bt329.1 1).f0).length : Int) = 3 then (some (bt365.1.toList == ([1, 0, 5, 0, 0, 0, 1, 255, 255, 255, 255] : List UInt8))) else (some false)) else (some false)) else (none)) else (some false)) else (some false)) else (some false)) else (some false))))))))
theorem tillerlaw11_awake.mono : ∀ k, LeO (tillerlaw11_awake.f k ) (tillerlaw11_awake.f (k + 1) ) := by
 intro  k
 unfold tillerlaw11_awake.f
 repeat' first
   | (with_reducible exact block_Bytes.mono _ _ _ _ _ _ _ _ _ _)
   | (with_reducible exact block_Read.mono _ _ _ _ _ _ _)
   | (with_reducible exact block_Split.mono _ _ _ _ _ _ _ _ _ _)
   | (with_reducible exact LeO.refl _)
   | (with_reducible exact LeO.none _)
   | (with_reducible refine LeO.ite ?_ ?_)
   | (with_reducible refine LeO.bind ?_ (fun _ => ?_))
   | exact block_Bytes.mono _ _ _ _ _ _ _ _ _ _
   | exact block_Read.mono _ _ _ _ _ _ _
   | exact block_Split.mono _ _ _ _ _ _ _ _ _ _
   | exact LeO.none _
   | refine LeO.ite ?_ ?_
   | refine LeO.bind ?_ (fun _ => ?_)
end Go.Proofs.Ytepbebelbcbciaa.Q
