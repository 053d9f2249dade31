/- The statement SoftSize without Go and memory: what a norm makes of numbers from 1/4 to 4 in size has a mean of squares near to one. No condition but that the row is one of a machine. -/
import Derived.Test.YtiooeclnjhncmaaQx10
import Derived.Test.YtiooeclnjhncmaaQx2
import Derived.Test.YtiooeclnjhncmaaQx8
import Derived.Test.YtiooeclnjhncmaaAwake05
import Derived.Test.YtiooeclnjhncmaaCurve
import Derived.Test.YtiooeclnjhncmaaEv
import Derived.Test.YtiooeclnjhncmaaNum
import Derived.Test.YtiooeclnjhncmaaRoot
import Derived.Test.YtiooeclnjhncmaaSoft
import Derived.Test.YtiooeclnjhncmaaSoft2
namespace Go.Proofs.Ytiooeclnjhncmaa.Pure
open Go.RowKit Go.Proofs.Ytiooeclnjhncmaa.Q Go.Proofs.YtiooeclnjhncmaaW.PrintWords Go.Proofs.YtiooeclnjhncmaaW.PrintLast
set_option linter.unusedVariables false
set_option linter.unusedSimpArgs false

theorem sSum_plain (l : List Int) (h : ∀ x ∈ l, 0 ≤ x) (hs : l.sum ≤ 9223372036854775807) : sSum l = l.sum := by
  have nn : ∀ l : List Int, (∀ x ∈ l, 0 ≤ x) → 0 ≤ l.sum := by
    intro l
    induction l with
    | nil => intro _; simp
    | cons a t ih =>
      intro h
      have h1 := h a List.mem_cons_self
      have h2 := ih (fun x hx => h x (List.mem_cons_of_mem _ hx))
      simp only [List.sum_cons]
      omega
  have key : ∀ (l : List Int) (z : Int), 0 ≤ z → (∀ x ∈ l, 0 ≤ x) → z + l.sum ≤ 9223372036854775807 → l.foldl sGrow z = z + l.sum := by
    intro l
    induction l with
    | nil => intro z _ _ _; simp
    | cons a t ih =>
      intro z hz h hs
      have h1 := h a List.mem_cons_self
      have h2 := nn t (fun x hx => h x (List.mem_cons_of_mem _ hx))
      simp only [List.sum_cons] at hs
      have e : sGrow z a = z + a := by unfold sGrow; rw [if_neg (by omega), if_neg (by omega)]
      simp only [List.foldl_cons, List.sum_cons, e]
      rw [ih (z + a) (by omega) (fun x hx => h x (List.mem_cons_of_mem _ hx)) (by omega)]
      omega
  have := key l 0 (Int.le_refl _) h (by omega)
  unfold sSum
  omega
theorem sProd_self (l : List Int) : sProd l l = l.map fun x => x * x := by
  unfold sProd
  induction l with
  | nil => rfl
  | cons a t ih => simp [List.zipWith_cons_cons, ih]
theorem sq_nonneg (x : Int) : 0 ≤ x * x := by
  rcases Int.le_total 0 x with h | h
  · exact Int.mul_nonneg h h
  · exact Int.mul_nonneg_of_nonpos_of_nonpos h h
theorem abs_sq (x : Int) : (x.natAbs : Int) * x.natAbs = x * x := by
  have := Int.natAbs_mul_self (a := x)
  omega
/-- Sums of squares, element by element. -/
theorem sq_sums (f : Int → Int) (A B C : Int) (l : List Int) (h : ∀ x ∈ l, A * (x * x) ≤ C * (f x * f x) ∧ C * (f x * f x) ≤ B * (x * x)) :
    A * (l.map fun x => x * x).sum ≤ C * ((l.map f).map fun y => y * y).sum ∧ C * ((l.map f).map fun y => y * y).sum ≤ B * (l.map fun x => x * x).sum := by
  induction l with
  | nil => simp
  | cons a t ih =>
    have h1 := h a List.mem_cons_self
    have h2 := ih (fun x hx => h x (List.mem_cons_of_mem _ hx))
    simp only [List.map_cons, List.sum_cons, Int.mul_add]
    omega
theorem sq_range (l : List Int) (c d : Int) (h : ∀ x ∈ l, c ≤ x * x ∧ x * x ≤ d) : c * l.length ≤ (l.map fun x => x * x).sum ∧ (l.map fun x => x * x).sum ≤ d * l.length := by
  induction l with
  | nil => simp
  | cons a t ih =>
    have h1 := h a List.mem_cons_self
    have h2 := ih (fun x hx => h x (List.mem_cons_of_mem _ hx))
    simp only [List.map_cons, List.sum_cons, List.length_cons]
    rw [show c * ((t.length + 1 : Nat) : Int) = c * t.length + c by rw [Int.natCast_add, Int.mul_add]; simp, show d * ((t.length + 1 : Nat) : Int) = d * t.length + d by rw [Int.natCast_add, Int.mul_add]; simp]
    omega
theorem abs_mul_le {a b : Int} {p q : Nat} (ha : a.natAbs ≤ p) (hb : b.natAbs ≤ q) : (a * b).natAbs ≤ p * q := by
  rw [Int.natAbs_mul]
  exact Nat.mul_le_mul ha hb
/-- A product, rounded: near. -/
theorem sRnd_near (z : Int) : 65536 * (sRnd z).natAbs ≤ z.natAbs + 32768 ∧ z.natAbs ≤ 65536 * (sRnd z).natAbs + 32768 := by
  unfold sRnd
  split <;> omega
theorem sMul_one (y : Int) (h : y.natAbs ≤ 2147483647) : sMul y 65536 = y := by
  have e : sRnd (y * 65536) = y := by unfold sRnd; split <;> omega
  unfold sMul
  rw [e]
  unfold sSat
  rw [if_neg (by omega), if_neg (by omega)]
/-- One element: the row's number times the inverse, within a ten thousandth. -/
theorem norm_near (x b : Int) (hx : 16384 ≤ x.natAbs ∧ x.natAbs ≤ 212991) (hb : 20000 ≤ b ∧ b ≤ 262144) :
    99980001 * (b * b) * (x * x) ≤ 429496729600000000 * (sMul (sMul x b) 65536 * sMul (sMul x b) 65536) ∧ 429496729600000000 * (sMul (sMul x b) 65536 * sMul (sMul x b) 65536) ≤ 100020001 * (b * b) * (x * x) ∧ (sMul (sMul x b) 65536).natAbs ≤ 900000 := by
  have hz1 : (x * b).natAbs ≤ 212991 * 262144 := abs_mul_le hx.2 (by omega)
  have hz2 : 327680000 ≤ (x * b).natAbs := by
    rw [Int.natAbs_mul]
    have : 16384 * 20000 ≤ x.natAbs * b.natAbs := Nat.mul_le_mul hx.1 (by omega)
    omega
  have hn := sRnd_near (x * b)
  have hy : sMul x b = sRnd (x * b) := by
    show sSat (sRnd (x * b)) = _
    unfold sSat
    rw [if_neg (by omega), if_neg (by omega)]
  have hy2 : sMul (sMul x b) 65536 = sRnd (x * b) := by rw [hy]; exact sMul_one _ (by omega)
  rw [hy2]
  obtain ⟨Y, hY⟩ : ∃ Y, Y = (sRnd (x * b)).natAbs := ⟨_, rfl⟩
  obtain ⟨Z, hZ⟩ : ∃ Z, Z = (x * b).natAbs := ⟨_, rfl⟩
  have eY : sRnd (x * b) * sRnd (x * b) = (Y : Int) * Y := by rw [hY]; exact (abs_sq _).symm
  have eZ : (b * b) * (x * x) = (Z : Int) * Z := by
    rw [hZ, abs_sq]
    grind
  have eL : 99980001 * (b * b) * (x * x) = 99980001 * ((Z : Int) * Z) := by rw [Int.mul_assoc 99980001 (b * b), eZ]
  have eU : 100020001 * (b * b) * (x * x) = 100020001 * ((Z : Int) * Z) := by rw [Int.mul_assoc 100020001 (b * b), eZ]
  rw [eY, eL, eU]
  rw [← hY, ← hZ] at hn
  rw [← hZ] at hz1 hz2
  -- 10000 * 65536 Y is between 9999 Z and 10001 Z
  have l1 : 9999 * Z ≤ 655360000 * Y := by omega
  have l2 : 655360000 * Y ≤ 10001 * Z := by omega
  have q1 : (9999 * Z) * (9999 * Z) ≤ (655360000 * Y) * (655360000 * Y) := Nat.mul_le_mul l1 l1
  have q2 : (655360000 * Y) * (655360000 * Y) ≤ (10001 * Z) * (10001 * Z) := Nat.mul_le_mul l2 l2
  have r1 : (9999 * Z) * (9999 * Z) = 99980001 * (Z * Z) := by grind
  have r2 : (655360000 * Y) * (655360000 * Y) = 429496729600000000 * (Y * Y) := by grind
  have r3 : (10001 * Z) * (10001 * Z) = 100020001 * (Z * Z) := by grind
  rw [r1, r2] at q1
  rw [r2, r3] at q2
  have c1 := Int.ofNat_le.mpr q1
  have c2 := Int.ofNat_le.mpr q2
  simp only [Int.natCast_mul] at c1 c2
  refine ⟨c1, c2, by omega⟩
/-- A norm over gains of one. -/
theorem norm_size (l : List Int) (h0 : l ≠ []) (hl : l.length ≤ 32) (hx : ∀ x ∈ l, 16384 ≤ x.natAbs ∧ x.natAbs ≤ 212991) :
    64000 < sMean (sNorm l (List.replicate l.length 65536)) ∧ sMean (sNorm l (List.replicate l.length 65536)) < 67000 := by
  have hp : 0 < l.length := List.length_pos_iff.2 h0
  obtain ⟨S, hS⟩ : ∃ S, S = (l.map fun x => x * x).sum := ⟨_, rfl⟩
  obtain ⟨n, hn⟩ : ∃ n : Int, n = (l.length : Int) := ⟨_, rfl⟩
  have hx2 : ∀ x ∈ l, 268435456 ≤ x * x ∧ x * x ≤ 45365166081 := by
    intro x hx'
    have h1 := hx x hx'
    have a1 : 16384 * 16384 ≤ x.natAbs * x.natAbs := Nat.mul_le_mul h1.1 h1.1
    have a2 : x.natAbs * x.natAbs ≤ 212991 * 212991 := Nat.mul_le_mul h1.2 h1.2
    have e := abs_sq x
    have c1 := Int.ofNat_le.mpr a1
    have c2 := Int.ofNat_le.mpr a2
    simp only [Int.natCast_mul] at c1 c2
    omega
  have hr := sq_range l 268435456 45365166081 hx2
  rw [← hS, ← hn] at hr
  have hn1 : 1 ≤ n := by omega
  have hn2 : n ≤ 32 := by omega
  -- the mean of the squares
  have hsq : sSq l = S := by
    unfold sSq
    rw [sProd_self, hS]
    refine sSum_plain _ (fun y hy => ?_) ?_
    · obtain ⟨x, _, rfl⟩ := List.mem_map.1 hy
      exact sq_nonneg x
    · rw [← hS]
      omega
  have d1 : 268435456 ≤ S / n := Int.le_ediv_of_mul_le (by omega) hr.1
  have d2 : S / n ≤ 45365166081 := by
    have : S / n ≤ (45365166081 * n) / n := Int.ediv_le_ediv (by omega) hr.2
    rwa [Int.mul_ediv_cancel _ (by omega)] at this
  have hm : sMean l = S / n / 65536 := by
    unfold sMean
    rw [hsq, ← hn]
    unfold sSat
    rw [if_neg (by omega), if_neg (by omega)]
  obtain ⟨M, hM⟩ : ∃ M, M = S / n / 65536 + 1 := ⟨_, rfl⟩
  have hM1 : 4097 ≤ M := by omega
  have hM2 : M ≤ 692218 := by omega
  have hs1 : sSat (sMean l + 1) = M := by
    rw [hm, ← hM]
    unfold sSat
    rw [if_neg (by omega), if_neg (by omega)]
  -- S lies between n * 65536 * (M - 1) and n * 65536 * M
  have sl : 65536 * (M - 1) * n ≤ S := by
    have a : S / n * n ≤ S := Int.ediv_mul_le S (by omega)
    have b : 65536 * (M - 1) * n ≤ S / n * n := Int.mul_le_mul_of_nonneg_right (by omega) (by omega)
    omega
  have su : S ≤ 65536 * M * n := by
    have a : S < (S / n + 1) * n := Int.lt_ediv_add_one_mul_self S (by omega)
    have b : (S / n + 1) * n ≤ 65536 * M * n := Int.mul_le_mul_of_nonneg_right (by omega) (by omega)
    omega
  -- the inverse
  obtain ⟨R, hR⟩ : ∃ R, R = 281474976710656 / M := ⟨_, rfl⟩
  have rl : R * M ≤ 281474976710656 := by rw [hR]; exact Int.ediv_mul_le _ (by omega)
  have ru : 281474976710656 < (R + 1) * M := by rw [hR]; exact Int.lt_ediv_add_one_mul_self _ (by omega)
  have R1 : 406627545 ≤ R := by rw [hR]; exact Int.le_ediv_of_mul_le (by omega) (by omega)
  have R2 : R ≤ 68719476736 := by
    have : R * 4097 ≤ R * M := Int.mul_le_mul_of_nonneg_left hM1 (by omega)
    omega
  obtain ⟨b, hb⟩ : ∃ b, b = sInv M := ⟨_, rfl⟩
  have hbr : IsRoot b R := by
    rw [hb]
    unfold sInv
    rw [if_neg (by omega), ← hR]
    exact sRoot_bounds (by omega) (by omega)
  obtain ⟨b0, b1, b2⟩ := hbr
  have hb1 : 20000 ≤ b := by
    by_cases h : 20000 ≤ b
    · exact h
    · have : (b + 1) * (b + 1) ≤ 20000 * 20000 := Int.mul_le_mul (by omega) (by omega) (by omega) (by omega)
      omega
  have hb2 : b ≤ 262144 := by
    by_cases h : b ≤ 262144
    · exact h
    · have : (262145 : Int) * 262145 ≤ b * b := Int.mul_le_mul (by omega) (by omega) (by omega) (by omega)
      omega
  -- the norm is a map
  have hN : sNorm l (List.replicate l.length 65536) = l.map fun x => sMul (sMul x b) 65536 := by
    unfold sNorm
    rw [hs1, ← hb]
    apply List.ext_getElem
    · simp
    · intro i h1 h2
      simp
  rw [hN]
  obtain ⟨f, hf⟩ : ∃ f : Int → Int, f = fun x => sMul (sMul x b) 65536 := ⟨_, rfl⟩
  rw [← hf]
  have hnear : ∀ x ∈ l, 99980001 * (b * b) * (x * x) ≤ 429496729600000000 * (f x * f x) ∧ 429496729600000000 * (f x * f x) ≤ 100020001 * (b * b) * (x * x) := by
    intro x hx'
    have := norm_near x b (hx x hx') ⟨hb1, hb2⟩
    rw [hf]
    exact ⟨this.1, this.2.1⟩
  obtain ⟨T, hT⟩ : ∃ T, T = ((l.map f).map fun y => y * y).sum := ⟨_, rfl⟩
  have hst := sq_sums f _ _ _ l hnear
  rw [← hS, ← hT] at hst
  have hT0 : ∀ y ∈ (l.map f).map (fun y => y * y), 0 ≤ y := by
    intro y hy
    obtain ⟨x, _, rfl⟩ := List.mem_map.1 hy
    exact sq_nonneg x
  -- b * b * S between bounds
  obtain ⟨B, hB⟩ : ∃ B, B = b * b := ⟨_, rfl⟩
  rw [← hB] at hst b1
  have e2 : (b + 1) * (b + 1) = B + 2 * b + 1 := by rw [hB]; grind
  rw [e2] at b2
  have hBlow : 400000000 ≤ B := by rw [hB]; have h_ := Int.mul_le_mul hb1 hb1 (show (0 : Int) ≤ 20000 by omega) (show (0 : Int) ≤ b by omega); omega
  -- R + 1 ≤ B * 10002 / 10000
  have bB : 20000 * b ≤ B := by rw [hB]; exact Int.mul_le_mul_of_nonneg_right hb1 b0
  have hRB : 10000 * (R + 1) ≤ 10002 * B := by omega
  have up : B * S ≤ 18446744073709551616 * n := by
    have a : B * S ≤ B * (65536 * M * n) := Int.mul_le_mul_of_nonneg_left su (by omega)
    have c : B * M ≤ R * M := Int.mul_le_mul_of_nonneg_right b1 (by omega)
    have d : B * M * n ≤ 281474976710656 * n := Int.mul_le_mul_of_nonneg_right (by omega) (by omega)
    have e : B * (65536 * M * n) = 65536 * (B * M * n) := by grind
    omega
  have lo : 9990 * (18446744073709551616 * n) ≤ 10000 * (B * S) := by
    have a : B * (65536 * (M - 1) * n) ≤ B * S := Int.mul_le_mul_of_nonneg_left sl (by omega)
    have c : 10000 * (281474976710656 * n) ≤ 10000 * ((R + 1) * M * n) := by
      have := Int.mul_le_mul_of_nonneg_right (Int.le_of_lt ru) (show (0 : Int) ≤ n by omega)
      omega
    have d : 10000 * (R + 1) * (M * n) ≤ 10002 * B * (M * n) := Int.mul_le_mul_of_nonneg_right hRB (Int.mul_nonneg (by omega) (by omega))
    have e : 10000 * ((R + 1) * M * n) = 10000 * (R + 1) * (M * n) := by grind
    have f1 : 10002 * B * (M * n) = 10002 * (B * M * n) := by grind
    have g : B * (65536 * (M - 1) * n) = 65536 * (B * M * n) - 65536 * (B * n) := by grind
    have k : 4097 * (B * n) ≤ B * M * n := by
      have h1 : B * n * 4097 ≤ B * n * M := Int.mul_le_mul_of_nonneg_left hM1 (Int.mul_nonneg (by omega) (by omega))
      have h2 : B * n * M = B * M * n := by grind
      omega
    omega
  have tup : 429496729600000000 * T ≤ 100020001 * (B * S) := by rw [← Int.mul_assoc]; exact hst.2
  have tlo : 99980001 * (B * S) ≤ 429496729600000000 * T := by rw [← Int.mul_assoc]; exact hst.1
  have T1 : T ≤ 4295826333 * n := by omega
  have T2 : 4289814236 * n ≤ T := by omega
  have hsqT : sSq (l.map f) = T := by
    unfold sSq
    rw [sProd_self, hT]
    refine sSum_plain _ hT0 ?_
    rw [← hT]
    omega
  have q1 : T / n ≤ 4295826333 := by
    have : T / n ≤ (4295826333 * n) / n := Int.ediv_le_ediv (by omega) T1
    rwa [Int.mul_ediv_cancel _ (by omega)] at this
  have q2 : 4289814236 ≤ T / n := Int.le_ediv_of_mul_le (by omega) T2
  unfold sMean
  rw [hsqT, List.length_map, ← hn]
  unfold sSat
  split <;> (try split) <;> omega

theorem SoftSize : tillerlaw05_SoftSize.Pure := by
  intro l0 h1 h2 h3
  refine Ev.rounds (?_ : Ev (fun k => tillerlaw05_SoftSize.f k l0) true)
  unfold tillerlaw05_SoftSize.f
  have hw : ∀ x ∈ l0, I32 x := fun x hx => i32_of_wf (h3 x hx)
  obtain ⟨g, hg⟩ : ∃ g : Int → Int, g = fun x => if Int.tmod x 196608 < 0 then Int.tmod x 196608 - 16384 else Int.tmod x 196608 + 16384 := ⟨_, rfl⟩
  have tm : ∀ x : Int, -196607 ≤ Int.tmod x 196608 ∧ Int.tmod x 196608 ≤ 196607 := by
    intro x
    rcases Int.le_total 0 x with h | h
    · rw [tmod_pos h]
      omega
    · rw [tmod_neg' h]
      omega
  have hgx : ∀ x, 16384 ≤ (g x).natAbs ∧ (g x).natAbs ≤ 212991 := by
    intro x
    have := tm x
    rw [hg]
    show 16384 ≤ (if Int.tmod x 196608 < 0 then Int.tmod x 196608 - 16384 else Int.tmod x 196608 + 16384).natAbs ∧ (if Int.tmod x 196608 < 0 then Int.tmod x 196608 - 16384 else Int.tmod x 196608 + 16384).natAbs ≤ 212991
    split <;> omega
  obtain ⟨m, hm⟩ : ∃ m, m = min 32 l0.length := ⟨_, rfl⟩
  have last : ∀ l : List Int, l.length ≤ 32 → (∀ x ∈ l, 16384 ≤ x.natAbs ∧ x.natAbs ≤ 212991) → Ev (fun k => tillerlaw05_SoftSize.j1 k l0 l (List.replicate l.length 65536) (m : Int) false) true := by
    intro l hl hx
    have hlw : ∀ x ∈ l, I32 x := fun x hx' => by have := hx x hx'; exact ⟨by omega, by omega⟩
    have hone : ∀ x ∈ List.replicate l.length (65536 : Int), I32 x := fun x hx' => by rw [(List.mem_replicate.1 hx').2]; exact ⟨by decide, by decide⟩
    refine Ev.step (fun k => tillerlaw05_SoftSize.j1.eq_2 ..) (ev_neg (by decide) ?_)
    by_cases c0 : l = []
    · subst c0
      have e1 : ∀ k, soft_Norm.f k [] (List.replicate ([] : List Int).length 65536) = some ([], 8) := fun k => by
        have e2 : soft_Mean.f k [] = some (0, 8) := by unfold soft_Mean.f; exact if_pos rfl
        unfold soft_Norm.f
        rw [e2]
        rfl
      exact Ev.bind (ev_of_eq e1) (ev_neg (by decide) (Ev.bind awake05_ev (ev_pos rfl (Ev.now _))))
    · have hN := sNorm_length l (List.replicate l.length 65536) (by simp)
      have hp : 0 < l.length := List.length_pos_iff.2 c0
      have c1 : sNorm l (List.replicate l.length 65536) ≠ [] := fun e => by rw [e] at hN; simp at hN; omega
      have hs := norm_size l c0 hl hx
      refine Ev.bind (norm_ev c0 (by omega) (by simp) hlw hone) (ev_pos rfl (Ev.bind (mean_ev c1 (show (sNorm l (List.replicate l.length 65536)).length ≤ 4096 by omega) (sNorm_i32 _ _)) (Ev.bind awake05_ev (ev_pos rfl (ev_pos rfl (ev_pos hs.1 ?_))))))
      exact ev_eq (Ev.now _) (decide_eq_true hs.2)
  have hml : m ≤ l0.length := by omega
  exact ev_loop m (fun k i (s : List Int × List Int) => tillerlaw05_SoftSize.l0 k l0 s.1 s.2 (i : Int)) (fun i => ((l0.take i).map g, List.replicate i 65536)) true
    (fun i hi ih => by
      have hi2 : i < l0.length := by omega
      have hlen : ((l0.take i).map g).length = i := by rw [List.length_map, List.length_take]; omega
      simp only [map_next _ g i hi2, List.replicate_succ'] at ih
      have ht := tm l0[i]
      refine Ev.step (fun k => tillerlaw05_SoftSize.l0.eq_2 ..) (ev_pos (by omega) ?_)
      have hd : decide ((i : Int) < 32) = true := decide_eq_true (by omega)
      rw [hd]
      refine Ev.step (fun k => tillerlaw05_SoftSize.j1.eq_2 ..) (ev_pos rfl (ev_pos (by omega) (ev_pos (by omega) ?_)))
      rw [rd_nat l0 i hi2, wrap_next hi2 (by unfold maxLen at h1; omega), wrap32_id (x := Int.tmod l0[i] 196608 - 16384) (by omega) (by omega), wrap32_id (x := Int.tmod l0[i] 196608 + 16384) (by omega) (by omega)]
      have hgi : g l0[i] = if Int.tmod l0[i] 196608 < 0 then Int.tmod l0[i] 196608 - 16384 else Int.tmod l0[i] 196608 + 16384 := by rw [hg]
      refine ev_if (fun c => ?_) (fun c => ?_)
      · rw [if_pos c] at hgi
        rw [hgi] at ih
        exact ev_pos (by rw [hlen]; omega) (ev_pos (by rw [List.length_replicate]; omega) ih)
      · rw [if_neg c] at hgi
        rw [hgi] at ih
        exact ev_pos (by rw [hlen]; omega) (ev_pos (by rw [List.length_replicate]; omega) ih))
    (by
      have hlen : ((l0.take m).map g).length = m := by rw [List.length_map, List.length_take]; omega
      have hl := last ((l0.take m).map g) (by omega) (fun x hx => by obtain ⟨y, _, rfl⟩ := List.mem_map.1 hx; exact hgx y)
      rw [hlen] at hl
      refine Ev.step (fun k => tillerlaw05_SoftSize.l0.eq_2 ..) (ev_if (fun c => ?_) (fun c => hl))
      have hd : decide ((m : Int) < 32) = false := decide_eq_false (by omega)
      rw [hd]
      exact hl) 0 (by omega)
end Go.Proofs.Ytiooeclnjhncmaa.Pure
