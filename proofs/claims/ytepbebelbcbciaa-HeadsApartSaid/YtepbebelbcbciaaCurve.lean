/- Powers of two and roots of fixed numbers: what the program and the document come to. Conditions: the bounds that each lemma names. -/
import Derived.Test.YtepbebelbcbciaaQx1
import Derived.Test.YtepbebelbcbciaaQx4
import Derived.Test.YtepbebelbcbciaaEv
import Derived.Test.YtepbebelbcbciaaNum
namespace Go.Proofs.Ytepbebelbcbciaa.Q
open Go.RowKit Go.Proofs.YtepbebelbcbciaaW.PrintWords Go.Proofs.YtepbebelbcbciaaW.PrintLast
set_option linter.unusedVariables false
set_option linter.unusedSimpArgs false

def sPow (x : Int) : Int := curve_powV (curve_powY x) / 2 ^ (mn (curve_powY x / 65536) 62).toNat
theorem curve_Pow_eq {x : Int} (h : I32 x) : curve_Pow.f x = some (sPow x) := by
  unfold curve_Pow.f
  exact if_pos h
theorem powV_bounds {y : Int} (_h : 0 ≤ y) : 32768 ≤ curve_powV y ∧ curve_powV y ≤ 65536 := by
  unfold curve_powV
  obtain ⟨n, hn⟩ : ∃ n : Nat, y / 1024 % 64 = n := ⟨(y / 1024 % 64).toNat, by omega⟩
  have hn64 : n < 64 := by omega
  have hb := curve_Steps.bounds ⟨n, hn64⟩
  simp only at hb
  rw [hn]
  generalize rd curve_steps (n : Int) = a at *
  generalize rd curve_steps ((n : Int) + 1) = b at *
  have r0 : 0 ≤ y % 1024 := by omega
  have r1 : y % 1024 ≤ 1023 := by omega
  generalize y % 1024 = R at *
  have p0 : 0 ≤ (a - b) * R := Int.mul_nonneg (by omega) r0
  have p1 : (a - b) * R ≤ (a - b) * 1023 := Int.mul_le_mul_of_nonneg_left r1 (by omega)
  generalize (a - b) * R = p at *
  omega
theorem powY_nonneg (x : Int) : 0 ≤ curve_powY x := by unfold curve_powY mn; split <;> omega
theorem ediv_pow_bounds {v : Int} (h : 0 ≤ v) (m : Nat) : 0 ≤ v / 2 ^ m ∧ v / 2 ^ m ≤ v :=
  ⟨Int.ediv_nonneg h (Int.le_of_lt (Int.pow_pos (by decide))), Int.ediv_le_self _ h⟩
theorem sPow_bounds (x : Int) : 0 ≤ sPow x ∧ sPow x ≤ 65536 := by
  unfold sPow
  have h := powV_bounds (powY_nonneg x)
  have := ediv_pow_bounds (v := curve_powV (curve_powY x)) (by omega) (mn (curve_powY x / 65536) 62).toNat
  omega
theorem sPow_zero : sPow 0 = 65536 := by decide
theorem ediv_ediv_two (v : Int) (m : Nat) : v / 2 / 2 ^ m = v / 2 ^ (m + 1) := by
  rw [Int.ediv_ediv_of_nonneg (by decide), Int.pow_succ, Int.mul_comm]
/-- The whole root. -/
def IsRoot (r x : Int) : Prop := 0 ≤ r ∧ r * r ≤ x ∧ x < (r + 1) * (r + 1)
theorem IsRoot.unique {r s x : Int} (hr : IsRoot r x) (hs : IsRoot s x) : r = s := by
  obtain ⟨r0, r1, r2⟩ := hr
  obtain ⟨s0, s1, s2⟩ := hs
  have key : ∀ a b : Int, 0 ≤ a → 0 ≤ b → a * a ≤ x → x < (b + 1) * (b + 1) → a ≤ b := by
    intro a b ha hb h1 h2
    by_cases h : a ≤ b
    · exact h
    · have : (b + 1) * (b + 1) ≤ a * a := Int.mul_le_mul (by omega) (by omega) (by omega) (by omega)
      omega
  have := key r s r0 s0 r1 s2
  have := key s r s0 r0 s1 r2
  omega
/-- The root of a number that has one. -/
noncomputable def sRoot (x : Int) : Int := open Classical in if h : ∃ r, IsRoot r x then Classical.choose h else 0
theorem sRoot_eq {r x : Int} (h : IsRoot r x) : sRoot x = r := by
  have hx : ∃ r, IsRoot r x := ⟨r, h⟩
  unfold sRoot
  rw [dif_pos hx]
  exact (Classical.choose_spec hx).unique h
theorem newton_ge {r q x : Int} (hr : 0 < r) (hq : 0 ≤ q) (hx : x < (q + 1) * r) : x < ((r + q) / 2 + 1) * ((r + q) / 2 + 1) := by
  obtain ⟨n, hn⟩ : ∃ n, n = (r + q) / 2 := ⟨_, rfl⟩
  rw [← hn]
  have h1 : r + q + 1 ≤ 2 * (n + 1) := by omega
  have h2 : (r + q + 1) * (r + q + 1) ≤ (2 * (n + 1)) * (2 * (n + 1)) := Int.mul_le_mul h1 h1 (by omega) (by omega)
  have h3 : 0 ≤ (r - (q + 1)) * (r - (q + 1)) := by
    rcases Int.le_total 0 (r - (q + 1)) with h | h
    · exact Int.mul_nonneg h h
    · exact Int.mul_nonneg_of_nonpos_of_nonpos h h
  have h4 : (r + q + 1) * (r + q + 1) = 4 * ((q + 1) * r) + (r - (q + 1)) * (r - (q + 1)) := by grind
  have h5 : (2 * (n + 1)) * (2 * (n + 1)) = 4 * ((n + 1) * (n + 1)) := by grind
  omega
theorem root_loop {x : Int} (hx1 : 1 ≤ x) (hx2 : x ≤ 281474976710656) : ∀ (d : Nat) (r : Int), r.toNat ≤ d → 0 < r → r ≤ 4294967296 → x < (r + 1) * (r + 1) → Ev (fun k => curve_Root.l0 k x r) (sRoot x) := by
  intro d
  induction d with
  | zero => intro r h1 h2; omega
  | succ d ih =>
    intro r h1 h2 h3 h4
    refine Ev.step (fun k => curve_Root.l0.eq_2 ..) ?_
    refine ev_neg (by omega) ?_
    have q0 : 0 ≤ x / r := Int.ediv_nonneg (by omega) (by omega)
    have q1 : x / r ≤ x := Int.ediv_le_self _ (by omega)
    have q2 : x / r * r ≤ x := Int.ediv_mul_le x (by omega)
    have q3 : x < (x / r + 1) * r := Int.lt_ediv_add_one_mul_self x h2
    rw [tdiv_pos (x := x) (by omega), u64_id (x := x / r) (by omega) (by omega), u64_id (x := r + x / r) (by omega) (by omega), tdiv_pos (by omega), u64_id (x := (r + x / r) / 2) (by omega) (by omega)]
    have hn := newton_ge h2 q0 q3
    refine ev_if (fun hc => ?_) (fun hc => ?_)
    · refine ev_eq (Ev.now _) (sRoot_eq ⟨by omega, ?_, h4⟩).symm
      have : r * r ≤ x / r * r := Int.mul_le_mul_of_nonneg_right (by omega) (by omega)
      omega
    · have hpos : 0 < (r + x / r) / 2 := by
        by_cases hz : 0 < (r + x / r) / 2
        · exact hz
        · have e : (r + x / r) / 2 = 0 := by omega
          rw [e] at hn
          omega
      exact ih _ (by omega) hpos (by omega) hn
end Go.Proofs.Ytepbebelbcbciaa.Q
