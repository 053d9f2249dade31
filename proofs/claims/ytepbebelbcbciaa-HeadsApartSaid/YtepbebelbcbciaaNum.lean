/- What the program's and the document's arithmetic of fixed numbers come to, as plain functions of whole numbers. Conditions: the bounds that each lemma names. -/
import Derived.Test.YtepbebelbcbciaaQx1
import Derived.Test.YtepbebelbcbciaaQx2
import Derived.Test.YtepbebelbcbciaaQx4
import Derived.Test.YtepbebelbcbciaaEv
namespace Go.Proofs.Ytepbebelbcbciaa.Q
open Go.RowKit Go.Proofs.YtepbebelbcbciaaW.PrintWords Go.Proofs.YtepbebelbcbciaaW.PrintLast
set_option linter.unusedVariables false
set_option linter.unusedSimpArgs false

/-- Within what may be answered. -/
def sSat (x : Int) : Int := if x > 2147483647 then 2147483647 else if x < -2147483647 then -2147483647 else x
/-- By 65536, to the nearest, halves away from nought. -/
def sRnd (x : Int) : Int := if 0 ≤ x then (x + 32768) / 65536 else -((-x + 32768) / 65536)
/-- A sum within 63 bits and a sign. -/
def sGrow (s x : Int) : Int := if s + x > 9223372036854775807 then 9223372036854775807 else if s + x < -9223372036854775807 then -9223372036854775807 else s + x
def sMul (a b : Int) : Int := sSat (sRnd (a * b))
def Big (x : Int) : Prop := -9223372036854775807 ≤ x ∧ x ≤ 9223372036854775807
theorem sSat_i32 (x : Int) : -2147483647 ≤ sSat x ∧ sSat x ≤ 2147483647 := by unfold sSat; split <;> (try split) <;> omega
theorem sGrow_big (s x : Int) : Big (sGrow s x) := by unfold sGrow Big; split <;> (try split) <;> omega
theorem i32_mul {a b : Int} (ha : I32 a) (hb : I32 b) : -4611686018427387904 ≤ a * b ∧ a * b ≤ 4611686018427387904 := by
  unfold I32 at ha hb
  have h1 : (a * b).natAbs ≤ 2147483648 * 2147483648 := by
    rw [Int.natAbs_mul]
    exact Nat.mul_le_mul (by omega) (by omega)
  omega
theorem wrap_i32 {x : Int} (h : I32 x) : wrap64 x = x := wrap64_id (by have := h.1; omega) (by have := h.2; omega)
theorem wrap_mul {a b : Int} (ha : I32 a) (hb : I32 b) : wrap64 (wrap64 a * wrap64 b) = a * b := by
  rw [wrap_i32 ha, wrap_i32 hb]
  have := i32_mul ha hb
  exact wrap64_id (by omega) (by omega)
theorem i32_sSat (x : Int) : I32 (sSat x) := by have := sSat_i32 x; exact ⟨by omega, by omega⟩

theorem fix_Sat_eq (x : Int) : fix_Sat.f x = some (sSat x) := by
  unfold fix_Sat.f sSat mx mn
  congr 1
  split <;> split <;> (try split) <;> omega
theorem fix_Sub_eq {a b : Int} (ha : I32 a) (hb : I32 b) : fix_Sub.f a b = some (sSat (a - b)) := by
  unfold fix_Sub.f
  rw [wrap_i32 ha, wrap_i32 hb, wrap64_id (by unfold I32 at *; omega) (by unfold I32 at *; omega), fix_Sat_eq]
  rfl
theorem tdiv_pos {x d : Int} (h : 0 ≤ x) : Int.tdiv x d = x / d := Int.tdiv_eq_ediv_of_nonneg h
theorem tmod_pos {x d : Int} (h : 0 ≤ x) : Int.tmod x d = x % d := Int.tmod_eq_emod_of_nonneg h
theorem tdiv_neg' {x d : Int} (h : x ≤ 0) : Int.tdiv x d = -((-x) / d) := by
  have e : Int.tdiv (-x) d = (-x) / d := Int.tdiv_eq_ediv_of_nonneg (by omega)
  rw [Int.neg_tdiv] at e
  omega
theorem tmod_neg' {x d : Int} (h : x ≤ 0) : Int.tmod x d = -((-x) % d) := by
  have e : Int.tmod (-x) d = (-x) % d := Int.tmod_eq_emod_of_nonneg (by omega)
  rw [Int.neg_tmod] at e
  omega
theorem fix_Round_ev {x : Int} (h : Big x) : Ev (fun k => fix_Round.f k x 65536) (sRnd x) := by
  unfold Big at h
  unfold fix_Round.f
  refine ev_neg (by decide) ?_
  by_cases hx : 0 ≤ x
  · rw [tdiv_pos hx, tmod_pos hx]
    have hs : sRnd x = (x + 32768) / 65536 := by unfold sRnd; rw [if_pos hx]
    have w1 : wrap64 (65536 - x % 65536) = 65536 - x % 65536 := wrap64_id (by omega) (by omega)
    have w2 : wrap64 (x / 65536) = x / 65536 := wrap64_id (by omega) (by omega)
    have w3 : wrap64 (x / 65536 + 1) = x / 65536 + 1 := wrap64_id (by omega) (by omega)
    rw [w1, w2, hs]
    refine ev_if (fun hc => ?_) (fun hc => ?_)
    · have hd : decide (x % 65536 > 0) = true := decide_eq_true (by omega)
      refine Ev.step (fun k => fix_Round.j0.eq_2 ..) ?_
      refine ev_pos hd ?_
      rw [w3]
      exact ev_eq (Ev.now _) (by omega)
    · refine Ev.step (fun k => fix_Round.j0.eq_2 ..) ?_
      refine ev_neg (by decide) (ev_neg (by omega) ?_)
      exact ev_eq (Ev.now _) (by omega)
  · have hx' : x ≤ 0 := by omega
    rw [tdiv_neg' hx', tmod_neg' hx']
    have hs : sRnd x = -((-x + 32768) / 65536) := by unfold sRnd; rw [if_neg hx]
    have w1 : wrap64 (65536 - -(-x % 65536)) = 65536 + (-x % 65536) := by rw [wrap64_id (by omega) (by omega)]; omega
    have w2 : wrap64 (-(-x / 65536)) = -(-x / 65536) := wrap64_id (by omega) (by omega)
    have w3 : wrap64 (-(-x / 65536) - 1) = -(-x / 65536) - 1 := wrap64_id (by omega) (by omega)
    have w4 : wrap64 (- -(-x % 65536)) = -x % 65536 := by rw [wrap64_id (by omega) (by omega)]; omega
    have w5 : wrap64 (65536 + -(-x % 65536)) = 65536 - (-x % 65536) := by rw [wrap64_id (by omega) (by omega)]; omega
    rw [w1, w2, hs]
    refine ev_neg (by omega) ?_
    refine Ev.step (fun k => fix_Round.j0.eq_2 ..) ?_
    refine ev_neg (by decide) ?_
    rw [w3, w4, w5]
    refine ev_if (fun hc => ev_if (fun hd => ?_) (fun hd => ?_)) (fun hc => ?_)
    all_goals exact ev_eq (Ev.now _) (by omega)
theorem vec_Grow_ev {s x : Int} (hs : Big s) (hx : Big x) : Ev (fun k => vec_Grow.f k s x) (sGrow s x) := by
  unfold Big at hs hx
  unfold vec_Grow.f sGrow
  have hm : ∀ z : Int, mx z (-9223372036854775807) = if z < -9223372036854775807 then -9223372036854775807 else z := fun z => rfl
  refine ev_if (fun hc => ?_) (fun hc => ?_)
  · have w1 : wrap64 (9223372036854775807 - x) = 9223372036854775807 - x := wrap64_id (by omega) (by omega)
    rw [w1]
    refine Ev.step (fun k => vec_Grow.j0.eq_2 ..) ?_
    refine ev_if (fun hd => ?_) (fun hd => ev_neg (by omega) ?_)
    · have hd' := of_decide_eq_true hd
      exact ev_eq (Ev.now _) (by rw [if_pos (by omega)])
    · have hd' : ¬ (s > 9223372036854775807 - x) := fun h => hd (decide_eq_true h)
      rw [wrap64_id (by omega) (by omega), hm]
      exact ev_eq (Ev.now _) (by (repeat' split) <;> omega)
  · refine Ev.step (fun k => vec_Grow.j0.eq_2 ..) ?_
    refine ev_neg (by decide) ?_
    have w1 : wrap64 (-9223372036854775807 - x) = -9223372036854775807 - x := wrap64_id (by omega) (by omega)
    rw [w1]
    refine ev_if (fun hd => ev_if (fun he => ?_) (fun he => ?_)) (fun hd => ?_)
    · exact ev_eq (Ev.now _) (by rw [if_neg (by omega), if_pos (by omega)])
    · rw [wrap64_id (by omega) (by omega), hm]
      exact ev_eq (Ev.now _) (by (repeat' split) <;> omega)
    · rw [wrap64_id (by omega) (by omega), hm]
      exact ev_eq (Ev.now _) (by (repeat' split) <;> omega)
theorem big_mul {a b : Int} (ha : I32 a) (hb : I32 b) : Big (a * b) := by
  have := i32_mul ha hb
  unfold Big
  omega
theorem fix_Mul_ev {a b : Int} (ha : I32 a) (hb : I32 b) : Ev (fun k => fix_Mul.f k a b) (sMul a b) := by
  unfold fix_Mul.f
  rw [wrap_mul ha hb]
  refine Ev.bind (fix_Round_ev (big_mul ha hb)) ?_
  refine ev_some (fix_Sat_eq _) ?_
  exact Ev.now _
end Go.Proofs.Ytepbebelbcbciaa.Q
