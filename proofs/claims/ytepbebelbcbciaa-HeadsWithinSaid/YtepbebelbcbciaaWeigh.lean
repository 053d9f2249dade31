/- Weights: greater numbers weigh no less, and weights come to one but for less than how many there are. Conditions: the bounds that each lemma names. -/
import Derived.Test.YtepbebelbcbciaaQx4
import Derived.Test.YtepbebelbcbciaaCurve
import Derived.Test.YtepbebelbcbciaaEv
import Derived.Test.YtepbebelbcbciaaNum
import Derived.Test.YtepbebelbcbciaaSoft
namespace Go.Proofs.Ytepbebelbcbciaa.Q
open Go.RowKit Go.Proofs.YtepbebelbcbciaaW.PrintWords Go.Proofs.YtepbebelbcbciaaW.PrintLast
set_option linter.unusedVariables false
set_option linter.unusedSimpArgs false

/-! powers of two go down -/
theorem powV_seg (y : Int) (h0 : 0 ≤ y) (h : y % 1024 ≠ 1023) : curve_powV (y + 1) ≤ curve_powV y := by
  have e1 : (y + 1) / 1024 % 64 = y / 1024 % 64 := by omega
  have e2 : (y + 1) % 1024 = y % 1024 + 1 := by omega
  unfold curve_powV
  rw [e1, e2]
  obtain ⟨n, hn⟩ : ∃ n : Nat, y / 1024 % 64 = n := ⟨(y / 1024 % 64).toNat, by omega⟩
  have hn64 : n < 64 := by omega
  have hb := curve_Steps.bounds ⟨n, hn64⟩
  simp only at hb
  rw [hn]
  generalize rd curve_steps (n : Int) = a at *
  generalize rd curve_steps ((n : Int) + 1) = b at *
  generalize y % 1024 = R at *
  have e3 : (a - b) * (R + 1) = (a - b) * R + (a - b) := by rw [Int.mul_add, Int.mul_one]
  rw [e3]
  omega
theorem powV_knot (y : Int) (h0 : 0 ≤ y) (h : y % 1024 = 1023) (h2 : y / 1024 % 64 ≠ 63) : curve_powV (y + 1) ≤ curve_powV y := by
  have e1 : (y + 1) / 1024 % 64 = y / 1024 % 64 + 1 := by omega
  have e2 : (y + 1) % 1024 = 0 := by omega
  unfold curve_powV
  rw [e1, e2, h]
  obtain ⟨n, hn⟩ : ∃ n : Nat, y / 1024 % 64 = n := ⟨(y / 1024 % 64).toNat, by omega⟩
  have hn64 : n < 64 := by omega
  have hb := curve_Steps.bounds ⟨n, hn64⟩
  simp only at hb
  rw [hn]
  generalize rd curve_steps (n : Int) = a at *
  generalize rd curve_steps ((n : Int) + 1) = b at *
  generalize rd curve_steps ((n : Int) + 1 + 1) = c at *
  rw [Int.mul_zero]
  omega
theorem powV_start (y : Int) (h : y % 65536 = 0) : curve_powV y = 65536 := by
  have e1 : y / 1024 % 64 = 0 := by omega
  have e2 : y % 1024 = 0 := by omega
  unfold curve_powV
  rw [e1, e2, Int.mul_zero]
  decide
/-- The power as one function of how far below nought. -/
def pw (y : Int) : Int := curve_powV y / 2 ^ (y / 65536).toNat
theorem pw_step (y : Int) (h0 : 0 ≤ y) : pw (y + 1) ≤ pw y := by
  have hp : ∀ m : Nat, (0 : Int) < 2 ^ m := fun m => Int.pow_pos (by decide)
  have hb := powV_bounds h0
  unfold pw
  by_cases c : y % 65536 = 65535
  · have e1 : curve_powV (y + 1) = 65536 := powV_start _ (by omega)
    have e2 : ((y + 1) / 65536).toNat = (y / 65536).toNat + 1 := by omega
    rw [e1, e2, ← ediv_ediv_two]
    exact Int.ediv_le_ediv (hp _) (by omega)
  · have e2 : (y + 1) / 65536 = y / 65536 := by omega
    rw [e2]
    refine Int.ediv_le_ediv (hp _) ?_
    by_cases d : y % 1024 = 1023
    · exact powV_knot y h0 d (by omega)
    · exact powV_seg y h0 d
theorem pw_mono (y : Int) (d : Nat) (h0 : 0 ≤ y) : pw (y + d) ≤ pw y := by
  induction d with
  | zero => rw [show y + ((0 : Nat) : Int) = y by omega]; exact Int.le_refl _
  | succ d ih =>
    have := pw_step (y + d) (by omega)
    rw [show y + ((d + 1 : Nat) : Int) = y + d + 1 by omega]
    omega
theorem sPow_pw (x : Int) (h0 : -2147483648 ≤ x) (h1 : x ≤ 0) : sPow x = pw (-x) := by
  have e : curve_powY x = -x := by unfold curve_powY mn; rw [if_neg (by omega)]
  unfold sPow pw
  rw [e]
  have hb := powV_bounds (y := -x) (by omega)
  unfold mn
  split
  · have z1 : curve_powV (-x) / 2 ^ (62 : Int).toNat = 0 := Int.ediv_eq_zero_of_lt (by omega) (by have : (2 : Int) ^ (62 : Int).toNat = 4611686018427387904 := by decide
                                                                                                  omega)
    have z2 : curve_powV (-x) / 2 ^ (-x / 65536).toNat = 0 := by
      refine Int.ediv_eq_zero_of_lt (by omega) ?_
      have h1 : (2 : Int) ^ 62 ≤ 2 ^ (-x / 65536).toNat := by
        have := Nat.pow_le_pow_right (n := 2) (by decide) (show 62 ≤ (-x / 65536).toNat by omega)
        have h := Int.ofNat_le.mpr this
        rw [Int.natCast_pow, Int.natCast_pow] at h
        exact h
      have h2 : (2 : Int) ^ 62 = 4611686018427387904 := by decide
      omega
    rw [z1, z2]
  · rfl
theorem sPow_mono {x y : Int} (h0 : -2147483648 ≤ x) (h : x ≤ y) (h1 : y ≤ 0) : sPow x ≤ sPow y := by
  rw [sPow_pw x h0 (by omega), sPow_pw y (by omega) h1]
  have := pw_mono (-y) (y - x).toNat (by omega)
  rw [show -y + ((y - x).toNat : Int) = -x by omega] at this
  exact this

/-! sums of parts rounded down -/
theorem floors (s : Int) (hs : 0 < s) : ∀ l : List Int, (∀ x ∈ l, 0 ≤ x) → (l.map fun p => p * 65536 / s).sum * s ≤ 65536 * l.sum ∧ 65536 * l.sum ≤ (l.map fun p => p * 65536 / s).sum * s + (s - 1) * l.length := by
  intro l
  induction l with
  | nil => intro _; simp
  | cons a t ih =>
    intro h
    obtain ⟨i1, i2⟩ := ih (fun x hx => h x (List.mem_cons_of_mem _ hx))
    have d1 : a * 65536 / s * s ≤ a * 65536 := Int.ediv_mul_le _ (by omega)
    have d2 : a * 65536 < (a * 65536 / s + 1) * s := Int.lt_ediv_add_one_mul_self _ hs
    simp only [List.map_cons, List.sum_cons, List.length_cons]
    generalize a * 65536 / s = q at *
    generalize (t.map fun p => p * 65536 / s).sum = r at *
    have e1 : (q + r) * s = q * s + r * s := Int.add_mul _ _ _
    have e2 : (q + 1) * s = q * s + s := by rw [Int.add_mul, Int.one_mul]
    have e3 : (s - 1) * ((t.length + 1 : Nat) : Int) = (s - 1) * t.length + (s - 1) := by rw [Int.natCast_add, Int.mul_add]; simp
    rw [e1, e3]
    rw [e2] at d2
    generalize (s - 1) * (t.length : Int) = z at *
    generalize q * s = qs at *
    generalize r * s = rs at *
    omega
theorem sW_sum {l : List Int} (h : l ≠ []) : (sW l).sum ≤ 65536 ∧ 65536 - l.length < (sW l).sum := by
  have hs := sPs_sum h
  have hp : 0 < l.length := List.length_pos_iff.2 h
  obtain ⟨a, b⟩ := floors (sPs l).sum (by omega) (sPs l) (fun x hx => (sPs_bounds l x hx).1)
  rw [sPs_length] at b
  have e : ((sPs l).map fun p => p * 65536 / (sPs l).sum) = sW l := rfl
  rw [e] at a b
  generalize (sPs l).sum = s at *
  generalize (sW l).sum = w at *
  constructor
  · exact Int.le_of_mul_le_mul_right a (by omega)
  · have hb : 65536 * s < (w + l.length) * s := by
      rw [Int.add_mul]
      have : (s - 1) * (l.length : Int) < (l.length : Int) * s := by
        rw [Int.sub_mul, Int.one_mul, Int.mul_comm s]
        omega
      omega
    have := Int.lt_of_mul_lt_mul_right hb (by omega)
    omega
theorem sub_top {l : List Int} (hw : ∀ x ∈ l, I32 x) {x : Int} (hx : x ∈ l) (hn : l ≠ []) : -2147483648 ≤ sSat (x - sTop l) ∧ sSat (x - sTop l) ≤ 0 := by
  have h1 := sTop_ge hx
  have h2 := sSat_i32 (x - sTop l)
  refine ⟨by omega, ?_⟩
  unfold sSat
  split
  · omega
  · split <;> omega
theorem sSat_mono {a b : Int} (h : a ≤ b) : sSat a ≤ sSat b := by unfold sSat; (repeat' split) <;> omega
theorem sW_mono {l : List Int} (hw : ∀ x ∈ l, I32 x) (i j : Nat) (hi : i < l.length) (hj : j < l.length) (h : l[i] ≤ l[j]) : rd (sW l) i ≤ rd (sW l) j := by
  have hn : l ≠ [] := fun e => by rw [e] at hi; exact absurd hi (by simp)
  have hs := sPs_sum hn
  rw [rd_nat _ i (by rw [sW_length]; omega), rd_nat _ j (by rw [sW_length]; omega)]
  have e : ∀ (k : Nat) (hk : k < l.length), (sW l)[k]'(by rw [sW_length]; omega) = sPow (sSat (l[k] - sTop l)) * 65536 / (sPs l).sum := by
    intro k hk
    simp only [sW, sPs, List.getElem_map]
  rw [e i hi, e j hj]
  have bi := sub_top hw (List.getElem_mem hi) hn
  have bj := sub_top hw (List.getElem_mem hj) hn
  have hp := sPow_mono bi.1 (sSat_mono (show l[i] - sTop l ≤ l[j] - sTop l by omega)) bj.2
  exact Int.ediv_le_ediv (by omega) (by omega)
end Go.Proofs.Ytepbebelbcbciaa.Q
