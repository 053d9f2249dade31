/- What weights make of numbers lies between them and nought; and equal weights. Conditions: the bounds that each lemma names. -/
import Derived.Test.YtepbebelbcbciaaEv
import Derived.Test.YtepbebelbcbciaaNum
import Derived.Test.YtepbebelbcbciaaSoft2
namespace Go.Proofs.Ytepbebelbcbciaa.Q
open Go.RowKit Go.Proofs.YtepbebelbcbciaaW.PrintWords Go.Proofs.YtepbebelbcbciaaW.PrintLast
set_option linter.unusedVariables false
set_option linter.unusedSimpArgs false

theorem grow_between {lo hi : Int} (h0 : -2147483648 ≤ lo) (h1 : lo ≤ 0) (h2 : 0 ≤ hi) (h3 : hi ≤ 2147483647) : ∀ (w c : List Int) (z a : Int), w.length = c.length → (∀ x ∈ w, 0 ≤ x) → (∀ x ∈ c, lo ≤ x ∧ x ≤ hi) → 0 ≤ a → a + w.sum ≤ 65536 → lo * a ≤ z → z ≤ hi * a →
    lo * 65536 ≤ (List.zipWith (· * ·) w c).foldl sGrow z ∧ (List.zipWith (· * ·) w c).foldl sGrow z ≤ hi * 65536
  | [], c, z, a, _, _, _, ha, hs, hz1, hz2 => by
    simp only [List.zipWith_nil_left, List.foldl_nil]
    rw [List.sum_nil, Int.add_zero] at hs
    have e1 : lo * 65536 ≤ lo * a := Int.mul_le_mul_of_nonpos_left h1 hs
    have e2 : hi * a ≤ hi * 65536 := Int.mul_le_mul_of_nonneg_left hs h2
    omega
  | x :: w, [], z, a, hl, _, _, _, _, _, _ => by simp at hl
  | x :: w, y :: c, z, a, hl, hw, hc, ha, hs, hz1, hz2 => by
    have hx := hw x List.mem_cons_self
    have hy := hc y List.mem_cons_self
    have hsw : 0 ≤ w.sum := by
      have key : ∀ l : List Int, (∀ x ∈ l, 0 ≤ x) → 0 ≤ l.sum := by
        intro l
        induction l with
        | nil => simp
        | cons p t ih =>
          intro h
          have q1 := h p List.mem_cons_self
          have q2 := ih (fun x hx => h x (List.mem_cons_of_mem _ hx))
          rw [List.sum_cons]
          omega
      exact key w (fun x hx => hw x (List.mem_cons_of_mem _ hx))
    rw [List.sum_cons] at hs
    rw [List.zipWith_cons_cons, List.foldl_cons]
    have m1 : x * lo ≤ x * y := Int.mul_le_mul_of_nonneg_left hy.1 hx
    have m2 : x * y ≤ x * hi := Int.mul_le_mul_of_nonneg_left hy.2 hx
    have d1 : lo * (a + x) = lo * a + x * lo := by rw [Int.mul_add, Int.mul_comm x lo]
    have d2 : hi * (a + x) = hi * a + x * hi := by rw [Int.mul_add, Int.mul_comm x hi]
    have b1 : lo * 65536 ≤ lo * (a + x) := Int.mul_le_mul_of_nonpos_left h1 (by omega)
    have b2 : hi * (a + x) ≤ hi * 65536 := Int.mul_le_mul_of_nonneg_left (by omega) h2
    have g : sGrow z (x * y) = z + x * y := by unfold sGrow; (repeat' split) <;> omega
    rw [g]
    exact grow_between h0 h1 h2 h3 w c (z + x * y) (a + x) (by simpa using hl) (fun p hp => hw p (List.mem_cons_of_mem _ hp)) (fun p hp => hc p (List.mem_cons_of_mem _ hp)) (by omega) (by omega) (by omega) (by omega)
theorem dot_between {w c : List Int} {lo hi : Int} (h : w.length = c.length) (hw : ∀ x ∈ w, 0 ≤ x) (hs : w.sum ≤ 65536) (h0 : -2147483648 ≤ lo) (h1 : lo ≤ 0) (h2 : 0 ≤ hi) (h3 : hi ≤ 2147483647) (hc : ∀ x ∈ c, lo ≤ x ∧ x ≤ hi) :
    lo ≤ sDot w c ∧ sDot w c ≤ hi := by
  have key := grow_between h0 h1 h2 h3 w c 0 0 h hw hc (Int.le_refl _) (by omega) (by omega) (by omega)
  unfold sDot sSum sProd
  generalize (List.zipWith (· * ·) w c).foldl sGrow 0 = s at *
  unfold sSat sRnd
  (repeat' split) <;> omega
theorem foldl_mn (l : List Int) : ∀ z : Int, l.foldl mn z ≤ z ∧ (∀ x ∈ l, l.foldl mn z ≤ x) ∧ (l.foldl mn z = z ∨ l.foldl mn z ∈ l) := by
  induction l with
  | nil => intro z; exact ⟨Int.le_refl _, (fun x hx => by cases hx), .inl rfl⟩
  | cons a t ih =>
    intro z
    obtain ⟨h1, h2, h3⟩ := ih (mn z a)
    have ha : mn z a ≤ z ∧ mn z a ≤ a ∧ (mn z a = z ∨ mn z a = a) := by unfold mn; split <;> omega
    rw [List.foldl_cons]
    refine ⟨by omega, fun x hx => ?_, ?_⟩
    · rcases List.mem_cons.1 hx with rfl | hx
      · omega
      · exact h2 x hx
    · rcases h3 with h3 | h3
      · rcases ha.2.2 with h | h
        · exact .inl (by rw [h3, h])
        · exact .inr (by rw [h3, h]; exact List.mem_cons_self)
      · exact .inr (List.mem_cons_of_mem _ h3)
theorem grow_rep (a : Int) (h0 : -281474976710656 ≤ a) (h1 : a ≤ 281474976710656) : ∀ (n : Nat) (z : Int), n ≤ 1000 → -281474976710656 * (1000 - n) ≤ z → z ≤ 281474976710656 * (1000 - n) → (List.replicate n a).foldl sGrow z = z + n * a := by
  intro n
  induction n with
  | zero => intro z _ _ _; simp
  | succ n ih =>
    intro z hn hz1 hz2
    have g : sGrow z a = z + a := by unfold sGrow; (repeat' split) <;> omega
    rw [List.replicate_succ, List.foldl_cons, g, ih (z + a) (by omega) (by omega) (by omega), Int.natCast_add, Int.add_mul]
    simp
    omega
theorem dot_alike (n : Nat) (u v : Int) (hn : n ≤ 1000) (hu0 : 0 ≤ u) (hu1 : u ≤ 65536) (hv : I32 v) : sDot (List.replicate n u) (List.replicate n v) = sSat (sRnd (n * (u * v))) := by
  have hv1 := hv.1
  have hv2 := hv.2
  have m1 : u * (-2147483648) ≤ u * v := Int.mul_le_mul_of_nonneg_left hv1 hu0
  have m2 : u * v ≤ u * 2147483647 := Int.mul_le_mul_of_nonneg_left hv2 hu0
  unfold sDot sSum sProd
  rw [List.zipWith_replicate', grow_rep (u * v) (by omega) (by omega) n 0 hn (by omega) (by omega), Int.zero_add]
theorem one_miss {v t V : Int} (hv : I32 v) (ht : 2 ≤ t) (ht2 : t ≤ 40) (hV : V = v ∧ 0 ≤ v ∨ V = -v ∧ v < 0) :
    v - sSat (sRnd (t * (65536 / t * v))) ≤ V * t / 65536 + 1 ∧ sSat (sRnd (t * (65536 / t * v))) - v ≤ V * t / 65536 + 1 := by
  have hv1 := hv.1
  have hv2 := hv.2
  have hd := Int.mul_ediv_add_emod 65536 t
  have r0 := Int.emod_nonneg 65536 (show t ≠ 0 by omega)
  have r1 := Int.emod_lt_of_pos 65536 (show 0 < t by omega)
  have e : t * (65536 / t * v) = 65536 * v - 65536 % t * v := by
    rw [← Int.mul_assoc, ← Int.sub_mul]
    congr 1
    omega
  rw [e]
  generalize 65536 % t = r at *
  generalize 65536 / t = u at *
  have hV0 : 0 ≤ V := by omega
  have p1 : r * V ≤ (t - 1) * V := Int.mul_le_mul_of_nonneg_right (by omega) hV0
  have p0 : 0 ≤ r * V := Int.mul_nonneg r0 hV0
  have p2 : (t - 1) * V = V * t - V := by rw [Int.sub_mul, Int.one_mul, Int.mul_comm t V]
  have p3 : V * t ≤ V * 40 := Int.mul_le_mul_of_nonneg_left ht2 hV0
  rcases hV with ⟨rfl, hp⟩ | ⟨rfl, hp⟩
  · generalize r * V = p at *
    generalize V * t = q at *
    unfold sSat sRnd
    (repeat' split) <;> omega
  · have e2 : r * -v = -(r * v) := Int.mul_neg r v
    rw [e2] at p0 p1
    generalize r * v = p at *
    generalize -v * t = q at *
    unfold sSat sRnd
    (repeat' split) <;> omega
end Go.Proofs.Ytepbebelbcbciaa.Q
