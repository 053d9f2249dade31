/- What functions of the program come to, on trees. No condition but those that the theorems name. -/
import Derived.Test.YtjihjjbieeofdaaPK3
namespace Go.Proofs.Ytjihjjbieeofdaa.T
set_option linter.unusedSimpArgs false
set_option linter.unusedVariables false
open Go
set_option linter.unusedVariables false
set_option maxHeartbeats 2000000
end Go.Proofs.Ytjihjjbieeofdaa.T
namespace Go.Proofs.Ytjihjjbieeofdaa.T
set_option linter.unusedSimpArgs false
set_option linter.unusedVariables false
open Go
set_option linter.unusedVariables false
set_option maxHeartbeats 2000000
structure Mat (r c : Nat) (d : List Int) : Prop where
  r0 : 1 ≤ r
  r1 : r ≤ 128
  c0 : 1 ≤ c
  c1 : c ≤ 128
  len : d.length = r * c
  i32 : I32s d
def chk (r c : Int) (d : List Int) : Int := if r < 1 ∨ c < 1 then 1 else if r > 128 ∨ c > 128 then 2 else if (d.length : Int) ≠ r * c then 6 else 0
theorem Mat.at_ {r c : Nat} {d : List Int} (h : Mat r c d) {i j : Nat} (hi : i < r) (hj : j < c) : i * c + j < d.length := by
  rw [h.len]
  calc i * c + j < i * c + c := by omega
    _ = (i + 1) * c := by rw [Nat.add_mul, Nat.one_mul]
    _ ≤ r * c := Nat.mul_le_mul_right _ hi
theorem Mat.small {r c : Nat} {d : List Int} (h : Mat r c d) : d.length ≤ 16384 := by
  rw [h.len]; exact Nat.mul_le_mul h.r1 h.c1
end Go.Proofs.Ytjihjjbieeofdaa.T
namespace Go.Proofs.Ytjihjjbieeofdaa.T
set_option linter.unusedSimpArgs false
set_option linter.unusedVariables false
open Go
set_option linter.unusedVariables false
set_option maxHeartbeats 2000000
/-! the document's root -/
/-! how many bits -/
set_option maxRecDepth 100000
/-! the program's root -/
end Go.Proofs.Ytjihjjbieeofdaa.T
namespace Go.Proofs.Ytjihjjbieeofdaa.T
set_option linter.unusedSimpArgs false
set_option linter.unusedVariables false
open Go
set_option linter.unusedVariables false
set_option maxHeartbeats 2000000
set_option maxRecDepth 100000
end Go.Proofs.Ytjihjjbieeofdaa.T

