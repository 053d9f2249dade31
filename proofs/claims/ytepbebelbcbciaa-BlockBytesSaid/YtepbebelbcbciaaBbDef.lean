/- Functions of the program as plain Lean functions, each with a proof that the program's call comes to what it says; and rows of statements over them. No condition but those that the theorems name. Written by a program of this session (myprint.py, over the kit's print with patches of its own). -/
import Derived.Test.YtepbebelbcbciaaQx0
import Derived.Test.YtepbebelbcbciaaQx1
import Derived.Test.YtepbebelbcbciaaQx4
import Derived.Test.YtepbebelbcbciaaQx6
import Derived.Test.YtepbebelbcbciaaAwDef
import Derived.Test.YtepbebelbcbciaaQx11
import Derived.Test.YtepbebelbcbciaaQx13
import Derived.Test.YtepbebelbcbciaaQx15
import Derived.Test.YtepbebelbcbciaaReadTwo
import Derived.Test.YtepbebelbcbciaaZWords
namespace Go.Proofs.Ytepbebelbcbciaa.Q
open Go.RowKit Go.Proofs.YtepbebelbcbciaaW.PrintWords Go.Proofs.YtepbebelbcbciaaW.PrintLast Go.Proofs.YtepbebelbcbciaaW.PrintMore
attribute [local go_sem] max2_int min2_int max_two min_two max_three min_three max_four min_four   -- for this text's walks alone
set_option linter.unusedVariables false
set_option linter.unusedSimpArgs false

/-! ### tillerlaw11_BlockBytes: function 3 -/
mutual
def tillerlaw11_BlockBytes.j0 : Nat → ByteArray → ByteArray → Int → Bool → Int → Int → Int → Int → Int → List Int → Int → List (List (List Int)) → List (List (List Int)) → Option (Bool)
 | 0, _, _, _, _, _, _, _, _, _, _, _, _, _ => none
 | k + 1, x2, x8, x10, x43, x435000, x435001, x435002, x435003, x435004, x447000, x447001, x447002, x447003 => if x43 = true then (some false) else (if x10 = 0 then (if x435004 ≤ 4 then (if x435001 ≤ 32 then (tillerlaw11_BlockBytes.j1 k x2 x8 (decide (x435000 ≤ 64)) x435000 x435001 x435002 x435003 x435004 x447000 x447001 x447002 x447003) else (tillerlaw11_BlockBytes.j1 k x2 x8 false x435000 x435001 x435002 x435003 x435004 x447000 x447001 x447002 x447003)) else (tillerlaw11_BlockBytes.j1 k x2 x8 false x435000 x435001 x435002 x435003 x435004 x447000 x447001 x447002 x447003)) else (tillerlaw11_BlockBytes.j1 k x2 x8 false x435000 x435001 x435002 x435003 x435004 x447000 x447001 x447002 x447003))
def tillerlaw11_BlockBytes.j1 : Nat → ByteArray → ByteArray → Bool → Int → Int → Int → Int → Int → List Int → Int → List (List (List Int)) → List (List (List Int)) → Option (Bool)
 | 0, _, _, _, _, _, _, _, _, _, _, _, _ => none
 | k + 1, x2, x8, x60, x435000, x435001, x435002, x435003, x435004, x447000, x447001, x447002, x447003 => if x60 = true then ((block_Read.f k x435000 x435001 x435002 x435003 x435004 x8).bind fun bt461 => ((tillerref11_Bytes.f k x447000 x447001 x447002 x447003).bind fun t473 => (if x8.toList = t473.toList then (if bt461.2.2.2.2 = 0 then ((tillerlaw11_Told.f k bt461.1 bt461.2.1 bt461.2.2.1 bt461.2.2.2.1).bind fun bt474 => ((tillerref11_Same.f k bt474.1 bt474.2.1 bt474.2.2.1 bt474.2.2.2 x447000 x447001 x447002 x447003).bind fun t484 => (if t484 = true then (tillerlaw11_BlockBytes.j2 k x2 x435000 x435001 x435002 x435003 x435004) else (some false)))) else (some false)) else (some false)))) else (tillerlaw11_BlockBytes.j2 k x2 x435000 x435001 x435002 x435003 x435004)
def tillerlaw11_BlockBytes.j2 : Nat → ByteArray → Int → Int → Int → Int → Int → Option (Bool)
 | 0, _, _, _, _, _, _ => none
 | k + 1, x2, x435000, x435001, x435002, x435003, x435004 => if (x2.size : Int) > 3000 then (if 0 ≤ 3000 then (if 3000 ≤ (x2.size : Int) then (tillerlaw11_BlockBytes.j3 k (x2.extract 0 3000) x435000 x435001 x435002 x435003 x435004) else (none)) else (none)) else (tillerlaw11_BlockBytes.j3 k x2 x435000 x435001 x435002 x435003 x435004)
def tillerlaw11_BlockBytes.j3 : Nat → ByteArray → Int → Int → Int → Int → Int → Option (Bool)
 | 0, _, _, _, _, _, _ => none
 | k + 1, x2, x435000, x435001, x435002, x435003, x435004 => (block_Read.f k x435000 x435001 x435002 x435003 x435004 x2).bind fun bt485 => ((tillerref11_Read.f k x435000 x435001 x435002 x435003 x435004 x2).bind fun bt497 => (if bt485.2.2.2.2 = bt497.2.2.2.2 then ((tillerlaw11_Told.f k bt485.1 bt485.2.1 bt485.2.2.1 bt485.2.2.2.1).bind fun bt509 => ((tillerref11_Same.f k bt509.1 bt509.2.1 bt509.2.2.1 bt509.2.2.2 bt497.1 bt497.2.1 bt497.2.2.1 bt497.2.2.2.1).bind fun t519 => (if t519 = true then (if bt497.2.2.2.2 = 0 then ((tillerref11_Bytes.f k bt497.1 bt497.2.1 bt497.2.2.1 bt497.2.2.2.1).bind fun t520 => (some (t520.toList == x2.toList))) else (some true)) else (some false)))) else (some false)))
end
def tillerlaw11_BlockBytes.f (k : Nat) (a0_0 : Int) (a0_1 : Int) (a0_2 : Int) (a0_3 : Int) (a0_4 : Int) (l1_0 : List Int) (a1_1 : Int) (l1_2 : List (List (List Int))) (l1_3 : List (List (List Int))) (a2 : ByteArray) : Option (Bool) := (tillerlaw11_Told.f k l1_0 a1_1 l1_2 l1_3).bind fun bt436 => ((tillerlaw11_Of.f k bt436.1 bt436.2.1 bt436.2.2.1 bt436.2.2.2).bind fun bt447 => ((block_Bytes.f k a0_0 a0_1 a0_2 a0_3 a0_4 bt447.1 bt447.2.1 bt447.2.2.1 bt447.2.2.2).bind fun bt457 => ((tillerref11_Check.f k a0_0 a0_1 a0_2 a0_3 a0_4 bt436.1 bt436.2.1 bt436.2.2.1 bt436.2.2.2).bind fun t459 => ((tillerlaw11_awake.f k).bind fun t460 => (if t460 = true then (if bt457.2 = t459 then (if t459 = 0 then (tillerlaw11_BlockBytes.j0 k a2 bt457.1 t459 false a0_0 a0_1 a0_2 a0_3 a0_4 bt436.1 bt436.2.1 bt436.2.2.1 bt436.2.2.2) else (tillerlaw11_BlockBytes.j0 k a2 bt457.1 t459 (bt457.1.toList != ([] : List UInt8)) a0_0 a0_1 a0_2 a0_3 a0_4 bt436.1 bt436.2.1 bt436.2.2.1 bt436.2.2.2)) else (tillerlaw11_BlockBytes.j0 k a2 bt457.1 t459 true a0_0 a0_1 a0_2 a0_3 a0_4 bt436.1 bt436.2.1 bt436.2.2.1 bt436.2.2.2)) else (tillerlaw11_BlockBytes.j0 k a2 bt457.1 t459 true a0_0 a0_1 a0_2 a0_3 a0_4 bt436.1 bt436.2.1 bt436.2.2.1 bt436.2.2.2))))))
theorem tillerlaw11_BlockBytes.mono_l : ∀ k, (∀ y0 y1 y2 y3 y4 y5 y6 y7 y8 y9 y10 y11 y12, LeO (tillerlaw11_BlockBytes.j0 k y0 y1 y2 y3 y4 y5 y6 y7 y8 y9 y10 y11 y12) (tillerlaw11_BlockBytes.j0 (k + 1) y0 y1 y2 y3 y4 y5 y6 y7 y8 y9 y10 y11 y12)) ∧ (∀ y0 y1 y2 y3 y4 y5 y6 y7 y8 y9 y10 y11, LeO (tillerlaw11_BlockBytes.j1 k y0 y1 y2 y3 y4 y5 y6 y7 y8 y9 y10 y11) (tillerlaw11_BlockBytes.j1 (k + 1) y0 y1 y2 y3 y4 y5 y6 y7 y8 y9 y10 y11)) ∧ (∀ y0 y1 y2 y3 y4 y5, LeO (tillerlaw11_BlockBytes.j2 k y0 y1 y2 y3 y4 y5) (tillerlaw11_BlockBytes.j2 (k + 1) y0 y1 y2 y3 y4 y5)) ∧ (∀ y0 y1 y2 y3 y4 y5, LeO (tillerlaw11_BlockBytes.j3 k y0 y1 y2 y3 y4 y5) (tillerlaw11_BlockBytes.j3 (k + 1) y0 y1 y2 y3 y4 y5))
 | 0 => ⟨fun _ _ _ _ _ _ _ _ _ _ _ _ _ r h => by simp [tillerlaw11_BlockBytes.j0] at h, fun _ _ _ _ _ _ _ _ _ _ _ _ r h => by simp [tillerlaw11_BlockBytes.j1] at h, fun _ _ _ _ _ _ r h => by simp [tillerlaw11_BlockBytes.j2] at h, fun _ _ _ _ _ _ r h => by simp [tillerlaw11_BlockBytes.j3] at h⟩
 | k + 1 => by
  obtain ⟨ih0, ih1, ih2, ih3⟩ := tillerlaw11_BlockBytes.mono_l k
  refine ⟨?_, ?_, ?_, ?_⟩
  ·intro y0 y1 y2 y3 y4 y5 y6 y7 y8 y9 y10 y11 y12
   unfold tillerlaw11_BlockBytes.j0
   repeat' first
   | (with_reducible exact ih0 _ _ _ _ _ _ _ _ _ _ _ _ _)
   | (with_reducible exact ih1 _ _ _ _ _ _ _ _ _ _ _ _)
   | (with_reducible exact ih2 _ _ _ _ _ _)
   | (with_reducible exact ih3 _ _ _ _ _ _)
   | (with_reducible exact block_Bytes.mono _ _ _ _ _ _ _ _ _ _)
   | (with_reducible exact block_Read.mono _ _ _ _ _ _ _)
   | (with_reducible exact tillerlaw11_Of.mono _ _ _ _ _)
   | (with_reducible exact tillerlaw11_Told.mono _ _ _ _ _)
   | (with_reducible exact tillerlaw11_awake.mono _)
   | (with_reducible exact tillerref11_Bytes.mono _ _ _ _ _)
   | (with_reducible exact tillerref11_Check.mono _ _ _ _ _ _ _ _ _ _)
   | (with_reducible exact tillerref11_Read.mono _ _ _ _ _ _ _)
   | (with_reducible exact tillerref11_Same.mono _ _ _ _ _ _ _ _ _)
   | (with_reducible exact LeO.refl _)
   | (with_reducible exact LeO.none _)
   | (with_reducible refine LeO.ite ?_ ?_)
   | (with_reducible refine LeO.bind ?_ (fun _ => ?_))
   | exact ih0 _ _ _ _ _ _ _ _ _ _ _ _ _
   | exact ih1 _ _ _ _ _ _ _ _ _ _ _ _
   | exact ih2 _ _ _ _ _ _
   | exact ih3 _ _ _ _ _ _
   | exact block_Bytes.mono _ _ _ _ _ _ _ _ _ _
   | exact block_Read.mono _ _ _ _ _ _ _
   | exact tillerlaw11_Of.mono _ _ _ _ _
   | exact tillerlaw11_Told.mono _ _ _ _ _
   | exact tillerlaw11_awake.mono _
   | exact tillerref11_Bytes.mono _ _ _ _ _
   | exact tillerref11_Check.mono _ _ _ _ _ _ _ _ _ _
   | exact tillerref11_Read.mono _ _ _ _ _ _ _
   | exact tillerref11_Same.mono _ _ _ _ _ _ _ _ _
   | exact LeO.none _
   | refine LeO.ite ?_ ?_
   | refine LeO.bind ?_ (fun _ => ?_)
  ·intro y0 y1 y2 y3 y4 y5 y6 y7 y8 y9 y10 y11
   unfold tillerlaw11_BlockBytes.j1
   repeat' first
   | (with_reducible exact ih0 _ _ _ _ _ _ _ _ _ _ _ _ _)
   | (with_reducible exact ih1 _ _ _ _ _ _ _ _ _ _ _ _)
   | (with_reducible exact ih2 _ _ _ _ _ _)
   | (with_reducible exact ih3 _ _ _ _ _ _)
   | (with_reducible exact block_Bytes.mono _ _ _ _ _ _ _ _ _ _)
   | (with_reducible exact block_Read.mono _ _ _ _ _ _ _)
   | (with_reducible exact tillerlaw11_Of.mono _ _ _ _ _)
   | (with_reducible exact tillerlaw11_Told.mono _ _ _ _ _)
   | (with_reducible exact tillerlaw11_awake.mono _)
   | (with_reducible exact tillerref11_Bytes.mono _ _ _ _ _)
   | (with_reducible exact tillerref11_Check.mono _ _ _ _ _ _ _ _ _ _)
   | (with_reducible exact tillerref11_Read.mono _ _ _ _ _ _ _)
   | (with_reducible exact tillerref11_Same.mono _ _ _ _ _ _ _ _ _)
   | (with_reducible exact LeO.refl _)
   | (with_reducible exact LeO.none _)
   | (with_reducible refine LeO.ite ?_ ?_)
   | (with_reducible refine LeO.bind ?_ (fun _ => ?_))
   | exact ih0 _ _ _ _ _ _ _ _ _ _ _ _ _
   | exact ih1 _ _ _ _ _ _ _ _ _ _ _ _
   | exact ih2 _ _ _ _ _ _
   | exact ih3 _ _ _ _ _ _
   | exact block_Bytes.mono _ _ _ _ _ _ _ _ _ _
   | exact block_Read.mono _ _ _ _ _ _ _
   | exact tillerlaw11_Of.mono _ _ _ _ _
   | exact tillerlaw11_Told.mono _ _ _ _ _
   | exact tillerlaw11_awake.mono _
   | exact tillerref11_Bytes.mono _ _ _ _ _
   | exact tillerref11_Check.mono _ _ _ _ _ _ _ _ _ _
   | exact tillerref11_Read.mono _ _ _ _ _ _ _
   | exact tillerref11_Same.mono _ _ _ _ _ _ _ _ _
   | exact LeO.none _
   | refine LeO.ite ?_ ?_
   | refine LeO.bind ?_ (fun _ => ?_)
  ·intro y0 y1 y2 y3 y4 y5
   unfold tillerlaw11_BlockBytes.j2
   repeat' first
   | (with_reducible exact ih0 _ _ _ _ _ _ _ _ _ _ _ _ _)
   | (with_reducible exact ih1 _ _ _ _ _ _ _ _ _ _ _ _)
   | (with_reducible exact ih2 _ _ _ _ _ _)
   | (with_reducible exact ih3 _ _ _ _ _ _)
   | (with_reducible exact block_Bytes.mono _ _ _ _ _ _ _ _ _ _)
   | (with_reducible exact block_Read.mono _ _ _ _ _ _ _)
   | (with_reducible exact tillerlaw11_Of.mono _ _ _ _ _)
   | (with_reducible exact tillerlaw11_Told.mono _ _ _ _ _)
   | (with_reducible exact tillerlaw11_awake.mono _)
   | (with_reducible exact tillerref11_Bytes.mono _ _ _ _ _)
   | (with_reducible exact tillerref11_Check.mono _ _ _ _ _ _ _ _ _ _)
   | (with_reducible exact tillerref11_Read.mono _ _ _ _ _ _ _)
   | (with_reducible exact tillerref11_Same.mono _ _ _ _ _ _ _ _ _)
   | (with_reducible exact LeO.refl _)
   | (with_reducible exact LeO.none _)
   | (with_reducible refine LeO.ite ?_ ?_)
   | (with_reducible refine LeO.bind ?_ (fun _ => ?_))
   | exact ih0 _ _ _ _ _ _ _ _ _ _ _ _ _
   | exact ih1 _ _ _ _ _ _ _ _ _ _ _ _
   | exact ih2 _ _ _ _ _ _
   | exact ih3 _ _ _ _ _ _
   | exact block_Bytes.mono _ _ _ _ _ _ _ _ _ _
   | exact block_Read.mono _ _ _ _ _ _ _
   | exact tillerlaw11_Of.mono _ _ _ _ _
   | exact tillerlaw11_Told.mono _ _ _ _ _
   | exact tillerlaw11_awake.mono _
   | exact tillerref11_Bytes.mono _ _ _ _ _
   | exact tillerref11_Check.mono _ _ _ _ _ _ _ _ _ _
   | exact tillerref11_Read.mono _ _ _ _ _ _ _
   | exact tillerref11_Same.mono _ _ _ _ _ _ _ _ _
   | exact LeO.none _
   | refine LeO.ite ?_ ?_
   | refine LeO.bind ?_ (fun _ => ?_)
  ·intro y0 y1 y2 y3 y4 y5
   unfold tillerlaw11_BlockBytes.j3
   repeat' first
   | (with_reducible exact ih0 _ _ _ _ _ _ _ _ _ _ _ _ _)
   | (with_reducible exact ih1 _ _ _ _ _ _ _ _ _ _ _ _)
   | (with_reducible exact ih2 _ _ _ _ _ _)
   | (with_reducible exact ih3 _ _ _ _ _ _)
   | (with_reducible exact block_Bytes.mono _ _ _ _ _ _ _ _ _ _)
   | (with_reducible exact block_Read.mono _ _ _ _ _ _ _)
   | (with_reducible exact tillerlaw11_Of.mono _ _ _ _ _)
   | (with_reducible exact tillerlaw11_Told.mono _ _ _ _ _)
   | (with_reducible exact tillerlaw11_awake.mono _)
   | (with_reducible exact tillerref11_Bytes.mono _ _ _ _ _)
   | (with_reducible exact tillerref11_Check.mono _ _ _ _ _ _ _ _ _ _)
   | (with_reducible exact tillerref11_Read.mono _ _ _ _ _ _ _)
   | (with_reducible exact tillerref11_Same.mono _ _ _ _ _ _ _ _ _)
   | (with_reducible exact LeO.refl _)
   | (with_reducible exact LeO.none _)
   | (with_reducible refine LeO.ite ?_ ?_)
   | (with_reducible refine LeO.bind ?_ (fun _ => ?_))
   | exact ih0 _ _ _ _ _ _ _ _ _ _ _ _ _
   | exact ih1 _ _ _ _ _ _ _ _ _ _ _ _
   | exact ih2 _ _ _ _ _ _
   | exact ih3 _ _ _ _ _ _
   | exact block_Bytes.mono _ _ _ _ _ _ _ _ _ _
   | exact block_Read.mono _ _ _ _ _ _ _
   | exact tillerlaw11_Of.mono _ _ _ _ _
   | exact tillerlaw11_Told.mono _ _ _ _ _
   | exact tillerlaw11_awake.mono _
   | exact tillerref11_Bytes.mono _ _ _ _ _
   | exact tillerref11_Check.mono _ _ _ _ _ _ _ _ _ _
   | exact tillerref11_Read.mono _ _ _ _ _ _ _
   | exact tillerref11_Same.mono _ _ _ _ _ _ _ _ _
   | exact LeO.none _
   | refine LeO.ite ?_ ?_
   | refine LeO.bind ?_ (fun _ => ?_)
theorem tillerlaw11_BlockBytes.mono : ∀ a0 a1 a2 a3 a4 a5 a6 a7 a8 a9 k, LeO (tillerlaw11_BlockBytes.f k a0 a1 a2 a3 a4 a5 a6 a7 a8 a9) (tillerlaw11_BlockBytes.f (k + 1) a0 a1 a2 a3 a4 a5 a6 a7 a8 a9) := by
 intro a0 a1 a2 a3 a4 a5 a6 a7 a8 a9 k
 obtain ⟨ih0, ih1, ih2, ih3⟩ := tillerlaw11_BlockBytes.mono_l k
 unfold tillerlaw11_BlockBytes.f
 repeat' first
   | (with_reducible exact ih0 _ _ _ _ _ _ _ _ _ _ _ _ _)
   | (with_reducible exact ih1 _ _ _ _ _ _ _ _ _ _ _ _)
   | (with_reducible exact ih2 _ _ _ _ _ _)
   | (with_reducible exact ih3 _ _ _ _ _ _)
   | (with_reducible exact block_Bytes.mono _ _ _ _ _ _ _ _ _ _)
   | (with_reducible exact block_Read.mono _ _ _ _ _ _ _)
   | (with_reducible exact tillerlaw11_Of.mono _ _ _ _ _)
   | (with_reducible exact tillerlaw11_Told.mono _ _ _ _ _)
   | (with_reducible exact tillerlaw11_awake.mono _)
   | (with_reducible exact tillerref11_Bytes.mono _ _ _ _ _)
   | (with_reducible exact tillerref11_Check.mono _ _ _ _ _ _ _ _ _ _)
   | (with_reducible exact tillerref11_Read.mono _ _ _ _ _ _ _)
   | (with_reducible exact tillerref11_Same.mono _ _ _ _ _ _ _ _ _)
   | (with_reducible exact LeO.refl _)
   | (with_reducible exact LeO.none _)
   | (with_reducible refine LeO.ite ?_ ?_)
   | (with_reducible refine LeO.bind ?_ (fun _ => ?_))
   | exact ih0 _ _ _ _ _ _ _ _ _ _ _ _ _
   | exact ih1 _ _ _ _ _ _ _ _ _ _ _ _
   | exact ih2 _ _ _ _ _ _
   | exact ih3 _ _ _ _ _ _
   | exact block_Bytes.mono _ _ _ _ _ _ _ _ _ _
   | exact block_Read.mono _ _ _ _ _ _ _
   | exact tillerlaw11_Of.mono _ _ _ _ _
   | exact tillerlaw11_Told.mono _ _ _ _ _
   | exact tillerlaw11_awake.mono _
   | exact tillerref11_Bytes.mono _ _ _ _ _
   | exact tillerref11_Check.mono _ _ _ _ _ _ _ _ _ _
   | exact tillerref11_Read.mono _ _ _ _ _ _ _
   | exact tillerref11_Same.mono _ _ _ _ _ _ _ _ _
   | exact LeO.none _
   | refine LeO.ite ?_ ?_
   | refine LeO.bind ?_ (fun _ => ?_)
end Go.Proofs.Ytepbebelbcbciaa.Q
