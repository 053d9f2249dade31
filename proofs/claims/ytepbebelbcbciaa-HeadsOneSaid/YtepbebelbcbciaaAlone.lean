/- Equal numbers weigh alike; a weight of one picks its row. Conditions: the bounds that each lemma names. -/
import Derived.Test.YtepbebelbcbciaaQx7
import Derived.Test.YtepbebelbcbciaaCurve
import Derived.Test.YtepbebelbcbciaaEv
import Derived.Test.YtepbebelbcbciaaNum
import Derived.Test.YtepbebelbcbciaaSoft
import Derived.Test.YtepbebelbcbciaaSoft2
namespace Go.Proofs.Ytepbebelbcbciaa.Q
open Go.RowKit Go.Proofs.YtepbebelbcbciaaW.PrintWords Go.Proofs.YtepbebelbcbciaaW.PrintLast
set_option linter.unusedVariables false
set_option linter.unusedSimpArgs false

theorem sum_replicate (n : Nat) (x : Int) : (List.replicate n x).sum = n * x := by
  induction n with
  | zero => simp
  | succ n ih =>
    rw [List.replicate_succ, List.sum_cons, ih, Int.natCast_add, Int.add_mul]
    simp
    omega
theorem sPs_alike (n : Nat) (x : Int) (h : 0 < n) : sPs (List.replicate n x) = List.replicate n 65536 := by
  have hn : List.replicate n x ≠ [] := List.length_pos_iff.1 (by rw [List.length_replicate]; exact h)
  have ht : sTop (List.replicate n x) = x := List.eq_of_mem_replicate (sTop_mem hn)
  unfold sPs
  rw [ht, List.map_replicate, Int.sub_self]
  have e : sSat 0 = 0 := by decide
  rw [e, sPow_zero]
theorem sW_alike (n : Nat) (x : Int) (h : 0 < n) : sW (List.replicate n x) = List.replicate n (65536 / (n : Int)) := by
  unfold sW
  rw [sPs_alike n x h, List.map_replicate, sum_replicate]
  have e : (65536 : Int) * 65536 / (n * 65536) = 65536 / n := by
    rw [Int.mul_comm (n : Int)]
    exact Int.mul_ediv_mul_of_pos _ _ (by decide)
  rw [e]
theorem sSat_floor {x : Int} (h : I32 x) : sSat x = mx x (-2147483647) := by
  have h1 := h.1
  have h2 := h.2
  unfold sSat mx
  (repeat' split) <;> omega
theorem sRnd_whole (x : Int) : sRnd (65536 * x) = x := by
  unfold sRnd
  split <;> omega
theorem sDot_one {x : Int} (h : I32 x) : sDot [65536] [x] = sSat x := by
  have h1 := h.1
  have h2 := h.2
  have e : sDot [65536] [x] = sSat (sRnd (sGrow 0 (65536 * x))) := rfl
  have g : sGrow 0 (65536 * x) = 65536 * x := by unfold sGrow; (repeat' split) <;> omega
  rw [e, g, sRnd_whole]
theorem few_v_eq (l : List Int) (n : Nat) (h : l.length * 4 ≤ 140737488351232) : tillerlaw03_Few_v.f l (n : Int) = some (l.take n) := by
  unfold tillerlaw03_Few_v.f
  exact few_eq l n h
end Go.Proofs.Ytepbebelbcbciaa.Q
