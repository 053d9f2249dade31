/- Functions of the program as plain Lean functions, each with a proof that the program's call comes to what it says; and rows of statements over them. No condition but those that the theorems name. Written by a program of this session (myprint.py, over the kit's print with patches of its own). -/
import Derived.Test.YtepbebelbcbciaaQx0
import Derived.Test.YtepbebelbcbciaaQx1
import Derived.Test.YtepbebelbcbciaaQx3
namespace Go.Proofs.Ytepbebelbcbciaa.Q
open Go.RowKit Go.Proofs.YtepbebelbcbciaaW.PrintWords Go.Proofs.YtepbebelbcbciaaW.PrintLast Go.Proofs.YtepbebelbcbciaaW.PrintMore
attribute [local go_sem] max2_int min2_int max_two min_two max_three min_three max_four min_four   -- for this text's walks alone
set_option linter.unusedVariables false
set_option linter.unusedSimpArgs false

/-! ### curve_Pow: function 69 -/
/-- The numbers of curve.Steps. -/
def curve_steps : List Int := [65536, 64830, 64132, 63441, 62757, 62081, 61413, 60751, 60097, 59449, 58809, 58176, 57549, 56929, 56316, 55709, 55109, 54515, 53928, 53347, 52773, 52204, 51642, 51085, 50535, 49991, 49452, 48920, 48393, 47871, 47356, 46846, 46341, 45842, 45348, 44859, 44376, 43898, 43425, 42958, 42495, 42037, 41584, 41136, 40693, 40255, 39821, 39392, 38968, 38548, 38133, 37722, 37316, 36914, 36516, 36123, 35734, 35349, 34968, 34591, 34219, 33850, 33486, 33125, 32768]
def curve_stepsV : Array Value := #[.int .i32 65536, .int .i32 64830, .int .i32 64132, .int .i32 63441, .int .i32 62757, .int .i32 62081, .int .i32 61413, .int .i32 60751, .int .i32 60097, .int .i32 59449, .int .i32 58809, .int .i32 58176, .int .i32 57549, .int .i32 56929, .int .i32 56316, .int .i32 55709, .int .i32 55109, .int .i32 54515, .int .i32 53928, .int .i32 53347, .int .i32 52773, .int .i32 52204, .int .i32 51642, .int .i32 51085, .int .i32 50535, .int .i32 49991, .int .i32 49452, .int .i32 48920, .int .i32 48393, .int .i32 47871, .int .i32 47356, .int .i32 46846, .int .i32 46341, .int .i32 45842, .int .i32 45348, .int .i32 44859, .int .i32 44376, .int .i32 43898, .int .i32 43425, .int .i32 42958, .int .i32 42495, .int .i32 42037, .int .i32 41584, .int .i32 41136, .int .i32 40693, .int .i32 40255, .int .i32 39821, .int .i32 39392, .int .i32 38968, .int .i32 38548, .int .i32 38133, .int .i32 37722, .int .i32 37316, .int .i32 36914, .int .i32 36516, .int .i32 36123, .int .i32 35734, .int .i32 35349, .int .i32 34968, .int .i32 34591, .int .i32 34219, .int .i32 33850, .int .i32 33486, .int .i32 33125, .int .i32 32768]
def curve_zerosV : Array Value := Array.replicate 65 (.int .i32 0)
theorem curve_Steps.zero (W : World) : (zeroValue 119).run Try.prog W = .ok (.agg curve_zerosV) W := by kernel_rfl
theorem curve_Steps.build_to {P : Program} {ops : Array Oper} {rest : List Oper} {o : Oper} {a : Act} {w : World} {Q : Exit → Act → World → Prop} (hg : o.guard = none) (t : TypeId) (parts : Array (Nat × Operand)) (ho : o.op = .build t parts) (cs : Array Value)
    (hf : P.built t (parts.map fun (i, x) => (i, a.eval x)).toList = some cs) (h : wpList P ops Q rest (a.put o.dst (.agg cs)) w) : wpList P ops Q (o :: rest) a w :=
  wpList_build hg t parts ho (by rw [hf]; rfl) (by rw [hf]; exact h)
theorem curve_Steps.below {B : Nat} {w W : World} (h : Below B w W) (g : Nat) (hg : B ≤ g) (cs : Array Value) : Below B w (W.setRow g cs) :=
  ⟨h.os, h.tape, h.output, by rw [size_setRow]; exact h.size, fun i hi => (setRow_other W g i cs (by omega)).trans (h.block i hi)⟩
set_option maxHeartbeats 4000000 in
set_option maxRecDepth 100000 in
theorem curve_Steps.calls (w : World) : Calls Try.prog 82 #[] w fun e w' => e = .returned (.agg curve_stepsV) ∧ Below w.heap.size w w' := by
  have hz := curve_Steps.zero
  go_enter Try.func82, Try.ntmps82
  go_wp2_with (first | (refine curve_Steps.build_to rfl 119 _ rfl curve_stepsV (by kernel_rfl) ?_) | (refine wpList_store_row rfl 119 _ _ rfl w.heap.size curve_stepsV rfl rfl 119 curve_zerosV (heap_alloc_new _ _) (by kernel_rfl) (by kernel_rfl) (by kernel_rfl) ?_))
  exact bodyPost_ret (results_cell_row rfl _ _ w.heap.size 119 curve_stepsV (0, 0) _ rfl (setRow_heap _ _ _ _ _ _ (heap_alloc_new _ _)) Try.underlying119 rfl (by kernel_rfl)) rfl ⟨rfl, curve_Steps.below (below_alloc (Below.refl _ _) _) _ (Nat.le_refl _) _⟩
theorem curve_Steps.at_ (j : Nat) (h : j < 65) : curve_stepsV[j]? = some (.int .i32 (rd curve_steps j)) := by
  have e : curve_stepsV = (curve_steps.map (Value.int .i32)).toArray := rfl
  have hl : curve_steps.length = 65 := rfl
  have hj : j < curve_steps.length := by omega
  rw [e]
  simp [rd, hj]
theorem curve_Steps.bounds : ∀ j : Fin 64, 32768 ≤ rd curve_steps (j.val : Nat) ∧ rd curve_steps (j.val : Nat) ≤ 65536 ∧ 32768 ≤ rd curve_steps ((j.val : Nat) + 1) ∧ rd curve_steps ((j.val : Nat) + 1) ≤ rd curve_steps (j.val : Nat) := by decide
theorem curve_Pow.num (a b R : Int) (m : Nat) (b1 : 32768 ≤ a) (b2 : a ≤ 65536) (b3 : 32768 ≤ b) (b4 : b ≤ a) (r0 : 0 ≤ R) (r1 : R < 1024) :
    wrap32 (wrap64 (wrap64 a - wrap64 (wrap64 (wrap64 (wrap64 a - wrap64 b) * R) + 512) / 1024) / 2 ^ m) = (a - ((a - b) * R + 512) / 1024) / 2 ^ m := by
  have w1 : wrap64 a = a := by unfold wrap64; omega
  have w2 : wrap64 b = b := by unfold wrap64; omega
  have w3 : wrap64 (a - b) = a - b := by unfold wrap64; omega
  have p0 : 0 ≤ (a - b) * R := Int.mul_nonneg (by omega) r0
  have p1 : (a - b) * R ≤ (a - b) * 1023 := Int.mul_le_mul_of_nonneg_left (by omega) (by omega)
  rw [w1, w2, w3]
  generalize (a - b) * R = p at *
  have w4 : wrap64 p = p := by unfold wrap64; omega
  rw [w4]
  have w5 : wrap64 (p + 512) = p + 512 := by unfold wrap64; omega
  rw [w5]
  have w6 : wrap64 (a - (p + 512) / 1024) = a - (p + 512) / 1024 := by unfold wrap64; omega
  rw [w6]
  have v0 : 0 ≤ a - (p + 512) / 1024 := by omega
  have v1 : a - (p + 512) / 1024 ≤ 65536 := by omega
  generalize a - (p + 512) / 1024 = v at *
  have q0 : 0 ≤ v / 2 ^ m := Int.ediv_nonneg v0 (Int.le_of_lt (Int.pow_pos (by decide)))
  have q1 : v / 2 ^ m ≤ v := Int.ediv_le_self _ v0
  unfold wrap32
  omega
/-- What curve.Pow comes to. -/
def curve_powY (a0 : Int) : Int := -(mn a0 0)
def curve_powV (y : Int) : Int := rd curve_steps (y / 1024 % 64) - ((rd curve_steps (y / 1024 % 64) - rd curve_steps (y / 1024 % 64 + 1)) * (y % 1024) + 512) / 1024
def curve_Pow.f (a0 : Int) : Option Int := if -2147483648 ≤ a0 ∧ a0 ≤ 2147483647 then some (curve_powV (curve_powY a0) / 2 ^ (mn (curve_powY a0 / 65536) 62).toNat) else none
theorem curve_Pow.mask63 (y : Int) (h0 : 0 ≤ y) (h1 : y ≤ 2147483648) : bits .and .i64 (y / 1024) 63 = y / 1024 % 64 :=
  bits_mask .i64 62 (by decide) (fun n h0 h1 => by rw [IntKind.wrap_i64]; omega) 6 (by decide) (y / 1024) (by omega) (by omega)
theorem curve_Pow.mask1023 (y : Int) (h0 : 0 ≤ y) (h1 : y ≤ 2147483648) : bits .and .i64 y 1023 = y % 1024 :=
  bits_mask .i64 62 (by decide) (fun n h0 h1 => by rw [IntKind.wrap_i64]; omega) 10 (by decide) y (by omega) (by omega)
theorem ret_num {k : IntKind} {a b : Int} (h : a = b) : Ending.returned (.int k a) = .returned (.int k b) := by rw [h]
set_option maxHeartbeats 4000000 in
set_option maxRecDepth 100000 in
theorem curve_Pow.calls_neg (y : Int) (h0 : 0 ≤ y) (h1 : y ≤ 2147483648) (w : World) :
    Calls Try.prog 69 #[.int .i32 (-y)] w fun e w' => e = .returned (.int .i32 (curve_powV y / 2 ^ (mn (y / 65536) 62).toNat)) ∧ Below w.heap.size w w' := by
  have hz := curve_Steps.zero
  have k1 := curve_Pow.mask63 y h0 h1
  have k2 := curve_Pow.mask1023 y h0 h1
  have k3 : ¬ (0 < -y) := by omega
  have k4 : 0 ≤ y / 1024 % 64 := by omega
  have k5 : y / 1024 % 64 < 64 := by omega
  go_enter Try.func69, Try.ntmps69
  go_wp2_with (first | (go_at_call 82; refine (curve_Steps.calls _).mono ?_; rintro e w1 ⟨rfl, hb⟩; have HB := Aside0.mk hb; clear hb) | (refine wpList_store_row rfl 119 _ _ rfl _ curve_stepsV rfl rfl 119 curve_zerosV (heap_alloc_new _ _) (by kernel_rfl) (by kernel_rfl) (by kernel_rfl) ?_))
  (try simp only [Act.put])
  obtain ⟨n, hn⟩ : ∃ n : Nat, y / 1024 % 64 = n := ⟨(y / 1024 % 64).toNat, by omega⟩
  have hn64 : n < 64 := by omega
  have HG := Aside0.mk (setRow_heap (w1.alloc (Obj.cells curve_zerosV 119)) w1.heap.size curve_zerosV curve_stepsV 119 (0, 0) (heap_alloc_new _ _))
  have HB2 := Aside0.mk (curve_Steps.below (below_alloc HB.out (Obj.cells curve_zerosV 119)) w1.heap.size HB.out.size curve_stepsV)
  rw [hn]
  have Hn := Aside0.mk hn
  clear hn hz k1 k2 k3 k4 k5
  generalize (w1.alloc (Obj.cells curve_zerosV 119)).setRow w1.heap.size curve_stepsV = W2 at *
  have c1 : W2.cell? ⟨w1.heap.size, n, none⟩ = some (.int .i32 (rd curve_steps n)) := (cell_of_row _ _ _ _ _ _ HG.out).trans (curve_Steps.at_ n (by omega))
  have c2 : W2.cell? ⟨w1.heap.size, n + 1, none⟩ = some (.int .i32 (rd curve_steps (n + 1))) := (cell_of_row _ _ _ _ _ _ HG.out).trans (curve_Steps.at_ (n + 1) (by omega))
  go_quiet (fail)
  have hbd := curve_Steps.bounds ⟨n, hn64⟩
  simp only at hbd
  have HV : Aside0 (curve_powV y = rd curve_steps n - ((rd curve_steps n - rd curve_steps (n + 1)) * (y % 1024) + 512) / 1024) := ⟨by unfold curve_powV; rw [Hn.out]⟩
  clear c1 c2
  generalize rd curve_steps (n + 1) = b at *
  generalize rd curve_steps n = a at *
  obtain ⟨b1, b2, b3, b4⟩ := hbd
  have hR0 : 0 ≤ y % 1024 := by omega
  have hR1 : y % 1024 < 1024 := by omega
  have HR := Aside0.mk (fun m => curve_Pow.num a b (y % 1024) m b1 b2 b3 b4 hR0 hR1)
  have hy : ∀ m : Nat, wrap32 (wrap64 (wrap64 a - wrap64 (wrap64 (wrap64 (wrap64 a - wrap64 b) * (y % 1024)) + 512) / 1024) / 2 ^ m) = curve_powV y / 2 ^ m := fun m => by rw [HV.out]; exact HR.out m
  have HY := Aside0.mk hy
  clear hy HR hR0 hR1
  go_wp2
  · go_ret
    refine ⟨?_, pw_below_drewN HB2.out _⟩
    rw [show mn (y / 65536) 62 = 62 by unfold mn; rw [if_pos (by assumption)]]
    have h_ := HY.out 62
    have e_ : (2 : Int) ^ 62 = 4611686018427387904 := by decide
    have e2_ : (2 : Int) ^ (62 : Int).toNat = 4611686018427387904 := by decide
    rw [e2_]
    rw [e_] at h_
    exact ret_num h_
  · go_ret
    refine ⟨?_, pw_below_drewN HB2.out _⟩
    rw [show mn (y / 65536) 62 = y / 65536 by unfold mn; rw [if_neg (by omega)]]
    exact ret_num (HY.out _)
set_option maxHeartbeats 4000000 in
set_option maxRecDepth 100000 in
theorem curve_Pow.calls_pos (a0 : Int) (h0 : 0 < a0) (h1 : a0 ≤ 2147483647) (w : World) :
    Calls Try.prog 69 #[.int .i32 a0] w fun e w' => e = .returned (.int .i32 65536) ∧ Below w.heap.size w w' := by
  have hz := curve_Steps.zero
  have k3 : ¬ (a0 ≤ 0) := by omega
  obtain ⟨n, hn⟩ : ∃ n : Nat, n = 0 := ⟨0, rfl⟩
  have hn64 : n < 64 := by omega
  have k1 : bits .and .i64 0 63 = n := by rw [hn]; decide
  have Hn := Aside0.mk hn
  clear hn
  have k2 : bits .and .i64 0 1023 = 0 := by decide
  go_enter Try.func69, Try.ntmps69
  go_wp2_with (first | (go_at_call 82; refine (curve_Steps.calls _).mono ?_; rintro e w1 ⟨rfl, hb⟩; have HB := Aside0.mk hb; clear hb) | (refine wpList_store_row rfl 119 _ _ rfl _ curve_stepsV rfl rfl 119 curve_zerosV (heap_alloc_new _ _) (by kernel_rfl) (by kernel_rfl) (by kernel_rfl) ?_))
  (try simp only [Act.put])
  have HG := Aside0.mk (setRow_heap (w1.alloc (Obj.cells curve_zerosV 119)) w1.heap.size curve_zerosV curve_stepsV 119 (0, 0) (heap_alloc_new _ _))
  have HB2 := Aside0.mk (curve_Steps.below (below_alloc HB.out (Obj.cells curve_zerosV 119)) w1.heap.size HB.out.size curve_stepsV)
  clear hz k1 k2
  generalize (w1.alloc (Obj.cells curve_zerosV 119)).setRow w1.heap.size curve_stepsV = W2 at *
  have c1 : W2.cell? ⟨w1.heap.size, n, none⟩ = some (.int .i32 65536) := (cell_of_row _ _ _ _ _ _ HG.out).trans (by rw [Hn.out]; exact curve_Steps.at_ 0 (by omega))
  have c2 : W2.cell? ⟨w1.heap.size, n + 1, none⟩ = some (.int .i32 64830) := (cell_of_row _ _ _ _ _ _ HG.out).trans (by rw [Hn.out]; exact curve_Steps.at_ 1 (by omega))
  go_quiet (fail)
  clear c1 c2
  go_wp2
  all_goals (go_ret; exact ⟨rfl, pw_below_drewN HB2.out _⟩)
theorem curve_Pow.calls (a0 : Int) (r : Int) (w : World) (h : curve_Pow.f a0 = some r) :
    Calls Try.prog 69 #[.int .i32 a0] w fun e w' => e = .returned (.int .i32 r) ∧ Below w.heap.size w w' := by
  unfold curve_Pow.f at h
  by_cases hb : -2147483648 ≤ a0 ∧ a0 ≤ 2147483647
  · rw [if_pos hb] at h
    obtain rfl := Option.some.inj h
    by_cases h0 : 0 < a0
    · have hy : curve_powY a0 = 0 := by unfold curve_powY mn; rw [if_pos h0]; rfl
      rw [hy]
      exact curve_Pow.calls_pos a0 h0 hb.2 w
    · have hy : curve_powY a0 = -a0 := by unfold curve_powY mn; rw [if_neg h0]
      rw [hy]
      have := curve_Pow.calls_neg (-a0) (by omega) (by omega) w
      rw [Int.neg_neg] at this
      exact this
  · rw [if_neg hb] at h
    cases h


/-! ### fix_Sub: function 70 -/
def fix_Sub.f (a0 : Int) (a1 : Int) : Option (Int) := (fix_Sat.f (wrap64 ((wrap64 (a0)) - (wrap64 (a1))))).bind fun t157 => (some t157)
set_option maxHeartbeats 8000000 in
set_option maxRecDepth 100000 in
theorem fix_Sub.calls (a0 : Int) (a1 : Int) (r : Int) (w : World) (h : fix_Sub.f a0 a1 = some r) :
    Calls Try.prog 70 #[.int .i32 a0, .int .i32 a1] w fun e w' => e = .returned (.int .i32 r) ∧ Below w.heap.size w w' := by
  have HB := Aside0.mk (Below.refl w.heap.size w)
  have H : ((fix_Sat.f (wrap64 ((wrap64 (a0)) - (wrap64 (a1))))).bind fun t157 => (some t157)) = some r := h
  clear h
  replace H := Option.bind_eq_some_iff.mp H
  obtain ⟨t157, A30, H⟩ := H
  replace H : (some t157) = some r := H
  have A3 := Aside0.mk A30
  clear A30
  obtain rfl := Option.some.inj H
  go_enter Try.func70, Try.ntmps70
  go_wp2_with (first | ((with_reducible refine gate_callee (f := 72) rfl ?_); refine goesL_ (some 10) rfl rfl Try.func72 (by kernel_rfl) rfl #[.int .i64 (wrap64 ((wrap64 (a0)) - (wrap64 (a1))))] rfl (by (try simp only [List.map_toArray, List.map_cons, List.map_nil]); first | done | rfl | (simp only [List.length_drop, List.length_take]; rfl)) ?_; (with_reducible refine (fix_Sat.calls (wrap64 ((wrap64 (a0)) - (wrap64 (a1)))) t157 _ A3.out).mono ?_); rintro e w4 ⟨rfl, hb⟩; refine ⟨_, rfl, ?_⟩; have n0_ := Aside0.mk (below_step (by repeat (first | (with_reducible first | exact HB.out | apply below_alloc | apply pw_below_drewN | apply below_drew1) | exact HB.out)) hb); clear HB; have HB := n0_; clear n0_; (try clear hb); (try clear hb2); (try clear hk); (try clear hi)))
  go_ret
  exact ⟨by first | rfl | (simp [errW_none, errW_some] <;> rfl) | (simp [*, errW_none, errW_some] <;> rfl), by repeat (first | (with_reducible first | exact HB.out | apply below_alloc | apply pw_below_drewN | apply below_drew1) | exact HB.out)⟩

/-! ### soft_Weights: function 53 -/
mutual
def soft_Weights.l0 : Nat → Int → List Int → Int → List Int → Int → Int → Option (List Int × Int)
  | 0, _, _, _, _, _, _ => none
  | k + 1, x4, x5, x6, x20, x21, x22 => if x22 < x21 then (if 0 ≤ x22 then (if x22 < (x20.length : Int) then ((fix_Sub.f (rd x20 x22) x4).bind fun t160 => ((curve_Pow.f t160).bind fun t161 => (if x5.length < 35184372088832 then (soft_Weights.l0 k x4 (x5 ++ [t161]) (wrap64 (x6 + (wrap64 (t161)))) x20 x21 (wrap64 (x22 + 1))) else (none)))) else (none)) else (none)) else (soft_Weights.l1 k x5 x6 (x5.length : Int) 0)
def soft_Weights.l1 : Nat → List Int → Int → Int → Int → Option (List Int × Int)
  | 0, _, _, _, _ => none
  | k + 1, x5, x6, x40, x41 => if x41 < x40 then (if 0 ≤ x41 then (if x41 < (x5.length : Int) then (if x6 = 0 then (none) else (soft_Weights.l1 k (x5.set (x41 : Int).toNat (wrap32 (wrap64 (Int.tdiv (wrap64 ((wrap64 (rd x5 x41)) * 65536)) x6)))) x6 x40 (wrap64 (x41 + 1)))) else (none)) else (none)) else (some (x5, 0))
end
def soft_Weights.f (k : Nat) (l0 : List Int) : Option (List Int × Int) := if (l0.length : Int) = 0 then (some (([] : List Int), 8)) else (if (l0.length : Int) > 4096 then (some (([] : List Int), 2)) else ((api_Num.f k l0).bind fun t158 => (soft_Weights.l0 k t158 ([] : List Int) 0 l0 (l0.length : Int) 0)))
theorem soft_Weights.mono_l : ∀ k, (∀ y0 y1 y2 y3 y4 y5, LeO (soft_Weights.l0 k y0 y1 y2 y3 y4 y5) (soft_Weights.l0 (k + 1) y0 y1 y2 y3 y4 y5)) ∧ (∀ y0 y1 y2 y3, LeO (soft_Weights.l1 k y0 y1 y2 y3) (soft_Weights.l1 (k + 1) y0 y1 y2 y3))
  | 0 => ⟨fun _ _ _ _ _ _ r h => by simp [soft_Weights.l0] at h, fun _ _ _ _ r h => by simp [soft_Weights.l1] at h⟩
  | k + 1 => by
    obtain ⟨ih0, ih1⟩ := soft_Weights.mono_l k
    refine ⟨?_, ?_⟩
    · intro y0 y1 y2 y3 y4 y5
      unfold soft_Weights.l0
      repeat' first
      | (with_reducible exact ih0 _ _ _ _ _ _)
      | (with_reducible exact ih1 _ _ _ _)
      | (with_reducible exact api_Num.mono _ _)
      | (with_reducible exact LeO.refl _)
      | (with_reducible exact LeO.none _)
      | (with_reducible refine LeO.ite ?_ ?_)
      | (with_reducible refine LeO.bind ?_ (fun _ => ?_))
      | exact ih0 _ _ _ _ _ _
      | exact ih1 _ _ _ _
      | exact api_Num.mono _ _
      | exact LeO.none _
      | refine LeO.ite ?_ ?_
      | refine LeO.bind ?_ (fun _ => ?_)
    · intro y0 y1 y2 y3
      unfold soft_Weights.l1
      repeat' first
      | (with_reducible exact ih0 _ _ _ _ _ _)
      | (with_reducible exact ih1 _ _ _ _)
      | (with_reducible exact api_Num.mono _ _)
      | (with_reducible exact LeO.refl _)
      | (with_reducible exact LeO.none _)
      | (with_reducible refine LeO.ite ?_ ?_)
      | (with_reducible refine LeO.bind ?_ (fun _ => ?_))
      | exact ih0 _ _ _ _ _ _
      | exact ih1 _ _ _ _
      | exact api_Num.mono _ _
      | exact LeO.none _
      | refine LeO.ite ?_ ?_
      | refine LeO.bind ?_ (fun _ => ?_)
theorem soft_Weights.mono : ∀ a0 k, LeO (soft_Weights.f k a0) (soft_Weights.f (k + 1) a0) := by
  intro a0 k
  obtain ⟨ih0, ih1⟩ := soft_Weights.mono_l k
  unfold soft_Weights.f
  repeat' first
      | (with_reducible exact ih0 _ _ _ _ _ _)
      | (with_reducible exact ih1 _ _ _ _)
      | (with_reducible exact api_Num.mono _ _)
      | (with_reducible exact LeO.refl _)
      | (with_reducible exact LeO.none _)
      | (with_reducible refine LeO.ite ?_ ?_)
      | (with_reducible refine LeO.bind ?_ (fun _ => ?_))
      | exact ih0 _ _ _ _ _ _
      | exact ih1 _ _ _ _
      | exact api_Num.mono _ _
      | exact LeO.none _
      | refine LeO.ite ?_ ?_
      | refine LeO.bind ?_ (fun _ => ?_)
set_option maxHeartbeats 8000000 in
set_option maxRecDepth 100000 in
theorem soft_Weights.calls (k : Nat) (A0 : Option Addr) (c0 : Nat) (l0 : List Int) (r1 : List Int) (r2 : Int) (w : World) (hr0 : Kd.C (Kd.int .i32) w A0 l0.length l0) (hc0 : l0.length ≤ c0) (h : soft_Weights.f k l0 = some (r1, r2)) :
    Calls Try.prog 53 #[.slice A0 l0.length c0] w fun e w' => ∃ v0_ : Value, e = .returned (.tuple #[v0_, .int .i64 r2]) ∧ Kd.R (Kd.int .i32) 72 w' w.heap.size (fun _ => True) v0_ r1 ∧ Below w.heap.size w w' := by
  have HR0 := Aside0.mk hr0
  have HC0 := Aside0.mk hc0
  clear hr0 hc0
  have HB := Aside0.mk (Below.refl w.heap.size w)
  have H : (if (l0.length : Int) = 0 then (some (([] : List Int), 8)) else (if (l0.length : Int) > 4096 then (some (([] : List Int), 2)) else ((api_Num.f k l0).bind fun t158 => (soft_Weights.l0 k t158 ([] : List Int) 0 l0 (l0.length : Int) 0)))) = some (r1, r2) := h
  clear h
  by_cases c2 : (l0.length : Int) = 0
  · rw [if_pos c2] at H
    have c2b0 : ((l0.length : Int) == 0) = true := beq_iff_eq.mpr c2
    have c2b1 : ((l0.length : Int) != 0) = false := bne_eq_false_iff_eq.mpr c2
    clear c2
    simp only [Option.some.injEq, Prod.mk.injEq] at H
    obtain ⟨rfl, rfl⟩ := H
    go_enter Try.func53, Try.ntmps53
    go_wp2
    go_ret2
    exact ⟨_, by first | rfl | (simp [errW_none, errW_some] <;> rfl) | (simp [*, errW_none, errW_some] <;> rfl), by first | exact Kd.R_nil _ _ _ _ _ | exact Kd.N_nil _ _ _ _ _ | exact Kd.V_nil _ _ _ _ _ | exact Kd.Q_nil _ _ _ _ _ | exact Kd.S_nil _ _ _ _ _, by repeat (first | (with_reducible first | exact HB.out | apply below_alloc | apply pw_below_drewN | apply below_drew1) | exact HB.out)⟩
  · rw [if_neg c2] at H
    have c2b0 : ((l0.length : Int) == 0) = false := beq_eq_false_iff_ne.mpr c2
    have c2b1 : ((l0.length : Int) != 0) = true := bne_iff_ne.mpr c2
    have c2b2 : ¬ (l0 = []) := fun h_ => c2 (by rw [h_]; rfl)
    by_cases c3 : (l0.length : Int) > 4096
    · rw [if_pos c3] at H
      have c3b0 : decide (4096 < (l0.length : Int)) = true := decide_eq_true c3
      have c3b1 : decide (4096 < l0.length) = true := decide_eq_true (by omega)
      clear c3
      simp only [Option.some.injEq, Prod.mk.injEq] at H
      obtain ⟨rfl, rfl⟩ := H
      go_enter Try.func53, Try.ntmps53
      go_wp2
      go_ret2
      exact ⟨_, by first | rfl | (simp [errW_none, errW_some] <;> rfl) | (simp [*, errW_none, errW_some] <;> rfl), by first | exact Kd.R_nil _ _ _ _ _ | exact Kd.N_nil _ _ _ _ _ | exact Kd.V_nil _ _ _ _ _ | exact Kd.Q_nil _ _ _ _ _ | exact Kd.S_nil _ _ _ _ _, by repeat (first | (with_reducible first | exact HB.out | apply below_alloc | apply pw_below_drewN | apply below_drew1) | exact HB.out)⟩
    · rw [if_neg c3] at H
      have c3b0 : decide (4096 < (l0.length : Int)) = false := decide_eq_false c3
      have c3b1 : decide (4096 < l0.length) = false := decide_eq_false (by omega)
      clear c3
      replace H := Option.bind_eq_some_iff.mp H
      obtain ⟨t158, A40, H⟩ := H
      replace H : (soft_Weights.l0 k t158 ([] : List Int) 0 l0 (l0.length : Int) 0) = some (r1, r2) := H
      have A4 := Aside0.mk A40
      clear A40
      have H' := Aside0.mk H
      clear H
      go_enter Try.func53, Try.ntmps53
      go_wp2_with (first | ((with_reducible refine gate_callee (f := 68) rfl ?_); refine goesL_ (some 19) rfl rfl Try.func68 (by kernel_rfl) rfl #[.slice A0 l0.length c0] rfl (by (try simp only [List.map_toArray, List.map_cons, List.map_nil]); first | done | rfl | (simp only [List.length_drop, List.length_take]; rfl)) ?_; (with_reducible refine (api_Num.calls k _ _ l0 t158 _ ?side1 ?side2 A4.out).mono ?_); (case side1 => repeat (first | exact HR0.out | (with_reducible refine Kd.C_alloc ?_ _) | (with_reducible refine Kd.C_drewN ?_ _) | (with_reducible refine Kd.C_drew ?_))); (case side2 => exact HC0.out); rintro e w5 ⟨rfl, hb⟩; refine ⟨_, rfl, ?_⟩; have n0_ := Aside0.mk (below_step (by repeat (first | (with_reducible first | exact HB.out | apply below_alloc | apply pw_below_drewN | apply below_drew1) | exact HB.out)) hb); clear HB; have HB := n0_; clear n0_; (try clear hb); (try clear hb2); (try clear hk); (try clear hi)))
      go_loopg [5, 6, 22] k (fun kq v5 v6 v22 w' => ∃ (x5_1 : List Int) (x6_1 : Int) (x22_1 : Int), v6 = .int .i64 x6_1 ∧ v22 = .int .i64 x22_1 ∧ Aside0 (soft_Weights.l0 kq t158 x5_1 x6_1 l0 (l0.length : Int) x22_1 = some (r1, r2)) ∧ Aside0 (kq ≤ k) ∧ Aside0 (Kd.R (Kd.int .i32) 72 w' w.heap.size (fun _ => True) v5 x5_1) ∧ Aside0 (Below w.heap.size w w'))
      case atStart => exact ⟨(([] : List Int)), (0), (0), (by first | rfl | (simp; done) | (simp [*]; done)), (by first | rfl | (simp; done) | (simp [*]; done)), H', ⟨Nat.le_refl _⟩, ⟨by first | exact Kd.R_nil _ _ _ _ _ | exact Kd.N_nil _ _ _ _ _ | exact Kd.V_nil _ _ _ _ _ | exact Kd.Q_nil _ _ _ _ _ | exact Kd.S_nil _ _ _ _ _⟩, ⟨by repeat (first | (with_reducible first | exact HB.out | apply below_alloc | apply pw_below_drewN | apply below_drew1) | exact HB.out)⟩⟩
      case round =>
        clear H'
        try clear c2
        try clear c2b0
        try clear c2b1
        try clear c2b2
        try clear p2
        try clear c3
        try clear c3b0
        try clear c3b1
        try clear c5
        obtain ⟨x5_1, x6_1, x22_1, rfl, rfl, HA, HK1, HO_5, HB⟩ := hrel
        cases gk with
        | zero => exact absurd HA.out (by simp [soft_Weights.l0])
        | succ k1 =>
          have H := HA.out
          clear HA
          simp only [soft_Weights.l0] at H
          by_cases c6 : x22_1 < (l0.length : Int)
          · rw [if_pos c6] at H
            have c6b0 : decide (x22_1 < (l0.length : Int)) = true := decide_eq_true c6
            clear c6
            by_cases c7 : 0 ≤ x22_1
            · rw [if_pos c7] at H
              have c7b0 : decide (0 ≤ x22_1) = true := decide_eq_true c7
              clear c7
              by_cases c8 : x22_1 < (l0.length : Int)
              · rw [if_pos c8] at H
                have c8b0 : decide (x22_1 < (l0.length : Int)) = true := decide_eq_true c8
                clear c8
                replace H := Option.bind_eq_some_iff.mp H
                obtain ⟨t160, A90, H⟩ := H
                replace H : ((curve_Pow.f t160).bind fun t161 => (if x5_1.length < 35184372088832 then (soft_Weights.l0 k1 t158 (x5_1 ++ [t161]) (wrap64 (x6_1 + (wrap64 (t161)))) l0 (l0.length : Int) (wrap64 (x22_1 + 1))) else (none))) = some (r1, r2) := H
                have A9 := Aside0.mk A90
                clear A90
                replace H := Option.bind_eq_some_iff.mp H
                obtain ⟨t161, A100, H⟩ := H
                replace H : (if x5_1.length < 35184372088832 then (soft_Weights.l0 k1 t158 (x5_1 ++ [t161]) (wrap64 (x6_1 + (wrap64 (t161)))) l0 (l0.length : Int) (wrap64 (x22_1 + 1))) else (none)) = some (r1, r2) := H
                have A10 := Aside0.mk A100
                clear A100
                by_cases c11 : x5_1.length < 35184372088832
                · rw [if_pos c11] at H
                  have LMc11 := Aside0.mk c11
                  clear c11
                  obtain ⟨y162, hy162⟩ : ∃ y_ : List Int, y_ = (x5_1 ++ [t161]) := ⟨_, rfl⟩
                  replace H : (soft_Weights.l0 k1 t158 y162 (wrap64 (x6_1 + (wrap64 (t161)))) l0 (l0.length : Int) (wrap64 (x22_1 + 1))) = some (r1, r2) := by first | (rw [hy162]; with_reducible exact H) | (have H2_ := (Option.bind_some _ _).symm.trans H; rw [hy162]; with_reducible exact H2_) | (have H2_ := (Option.bind_some _ _).symm.trans H; with_reducible exact H2_) | with_reducible exact H | (rw [hy162]; exact H) | exact H
                  have Ny162 := Aside0.mk hy162
                  clear hy162
                  have H' := Aside0.mk H
                  clear H
                  have p159 : 0 ≤ (x22_1 : Int) := of_decide_eq_true (by first | (with_reducible assumption) | assumption)
                  have q159 : x22_1 < (l0.length : Int) := of_decide_eq_true (by first | (with_reducible assumption) | assumption)
                  obtain ⟨ad159, e159, hx159_0⟩ := Kd.at_int HR0.out x22_1 p159 q159
                  cases e159
                  (first | replace hx159_0 := (HB.out.cell (World.block_lt_of_cell? w _ hx159_0)).trans hx159_0 | skip)
                  replace p159 := eq_true p159
                  replace q159 := eq_true q159
                  go_wp2_with (first | ((with_reducible refine gate_callee (f := 70) rfl ?_); refine goesL_ (some 28) rfl rfl Try.func70 (by kernel_rfl) rfl #[.int .i32 (rd l0 x22_1), .int .i32 t158] rfl (by (try simp only [List.map_toArray, List.map_cons, List.map_nil]); first | done | rfl | (simp only [List.length_drop, List.length_take]; rfl)) ?_; (with_reducible refine (fix_Sub.calls (rd l0 x22_1) t158 t160 _ A9.out).mono ?_); rintro e w12 ⟨rfl, hb⟩; refine ⟨_, rfl, ?_⟩; have n0_ := Aside0.mk (Kd.R_below (by (with_reducible repeat (first | apply Kd.R_alloc | apply Kd.R_drewN | apply Kd.R_drew)); exact HO_5.out) hb); have n1_ := Aside0.mk (below_step (by repeat (first | (with_reducible first | exact HB.out | apply below_alloc | apply pw_below_drewN | apply below_drew1) | exact HB.out)) hb); clear HO_5; clear HB; have HO_5 := n0_; have HB := n1_; clear n0_ n1_; (try clear hb); (try clear hb2); (try clear hk); (try clear hi)) | ((with_reducible refine gate_callee (f := 69) rfl ?_); refine goesL_ (some 29) rfl rfl Try.func69 (by kernel_rfl) rfl #[.int .i32 t160] rfl (by (try simp only [List.map_toArray, List.map_cons, List.map_nil]); first | done | rfl | (simp only [List.length_drop, List.length_take]; rfl)) ?_; (with_reducible refine (curve_Pow.calls t160 t161 _ A10.out).mono ?_); rintro e w13 ⟨rfl, hb⟩; refine ⟨_, rfl, ?_⟩; have n0_ := Aside0.mk (Kd.R_below (by (with_reducible repeat (first | apply Kd.R_alloc | apply Kd.R_drewN | apply Kd.R_drew)); exact HO_5.out) hb); have n1_ := Aside0.mk (below_step (by repeat (first | (with_reducible first | exact HB.out | apply below_alloc | apply pw_below_drewN | apply below_drew1) | exact HB.out)) hb); clear HO_5; clear HB; have HO_5 := n0_; have HB := n1_; clear n0_ n1_; (try clear hb); (try clear hb2); (try clear hk); (try clear hi)) | ((with_reducible refine gate_builtin (b := .append) (xs := #[.tmp 30, .tmp 32]) rfl ?_); at_builtin; refine Kd.R_append (Kd.int .i32) (w0 := w) w.heap.size rfl (.tmp 30) (.tmp 32) 61 72 (.int .i32 0) 4 rfl Try.underlying61 info72 rfl (by decide) (by omega) u5 x5_1 t161 [.int .i32 t161] (fun _ => True) (fun _ => False) rfl rfl ?aP (fun _ hk => hk.elim) ?aF ?aO ?aB ?aS ?aL ?_; (case aP => exact rfl); (case aB => exact (by repeat (first | (with_reducible first | exact HB.out | apply below_alloc | apply pw_below_drewN | apply below_drew1) | exact HB.out))); (case aF => exact (fun _ _ => trivial)); (case aO => exact (by (with_reducible repeat (first | apply Kd.R_alloc | apply Kd.R_drewN | apply Kd.R_drew)); exact HO_5.out)); (case aS => exact (below_size (by repeat (first | (with_reducible first | exact HB.out | apply below_alloc | apply pw_below_drewN | apply below_drew1) | exact HB.out)))); (case aL => have := LMc11.out; omega); intro v163 w14 ho hb hg hat; rw [← Ny162.out] at ho; have n0_ := Aside0.mk (hb); have n1_ := Aside0.mk (ho); clear HB; clear HO_5; have HB := n0_; have HO164 := n1_; clear n0_ n1_; clear ho hb hg hat))
                  go_roundg k1
                  case measure => have := HK1.out; omega
                  case rel => exact ⟨(y162), (wrap64 (x6_1 + (wrap64 (t161)))), (wrap64 (x22_1 + 1)), (by first | rfl | (simp; done) | (simp [*]; done)), (by first | rfl | (simp; done) | (simp [*]; done)), H', ⟨by have := HK1.out; omega⟩, ⟨by (with_reducible repeat (first | apply Kd.R_alloc | apply Kd.R_drewN | apply Kd.R_drew)); exact HO164.out⟩, ⟨by repeat (first | (with_reducible first | exact HB.out | apply below_alloc | apply pw_below_drewN | apply below_drew1) | exact HB.out)⟩⟩
                · rw [if_neg c11] at H
                  exact absurd H (by simp)
              · rw [if_neg c8] at H
                exact absurd H (by simp)
            · rw [if_neg c7] at H
              exact absurd H (by simp)
          · rw [if_neg c6] at H
            have c6b0 : decide (x22_1 < (l0.length : Int)) = false := decide_eq_false c6
            clear c6
            have H' := Aside0.mk H
            clear H
            obtain ⟨Ao15, co15, eo15⟩ := Kd.R_slice HO_5.out
            subst eo15
            go_wp2
            go_loopg [41] k1 (fun kq v41 w' => ∃ (x5_2 : List Int) (x41_2 : Int), v41 = .int .i64 x41_2 ∧ Aside0 (soft_Weights.l1 kq x5_2 x6_1 (x5_1.length : Int) x41_2 = some (r1, r2)) ∧ Aside0 (kq ≤ k1) ∧ Aside0 (Kd.R (Kd.int .i32) 72 w' w.heap.size (fun _ => True) (.slice Ao15 x5_1.length co15) x5_2) ∧ Aside0 (Below w.heap.size w w'))
            case atStart => exact ⟨(x5_1), (0), (by first | rfl | (simp; done) | (simp [*]; done)), H', ⟨Nat.le_refl _⟩, ⟨by (with_reducible repeat (first | apply Kd.R_alloc | apply Kd.R_drewN | apply Kd.R_drew)); exact HO_5.out⟩, ⟨by repeat (first | (with_reducible first | exact HB.out | apply below_alloc | apply pw_below_drewN | apply below_drew1) | exact HB.out)⟩⟩
            case round =>
              clear H'
              try clear c1
              try clear p1
              try clear q1
              try clear hx1
              try clear c2
              try clear c2b0
              try clear c2b1
              try clear c2b2
              try clear p2
              try clear c3
              try clear c3b0
              try clear c3b1
              try clear c5
              try clear c6
              try clear c6b0
              try clear p6
              try clear c7
              try clear c7b0
              try clear c8
              try clear c8b0
              try clear c11
              try clear p15
              try clear q15
              try clear hx15
              try clear hx159_0
              try clear p159
              try clear p2
              try clear q159
              obtain ⟨x5_2, x41_2, rfl, HA, HK2, HO_5, HB⟩ := hrel
              have hl5_2 := (Kd.R_reads' HO_5.out).1
              rw [hl5_2] at HO_5
              (try simp only [hl5_2])
              cases gk with
              | zero => exact absurd HA.out (by simp [soft_Weights.l1])
              | succ k2 =>
                have H := HA.out
                clear HA
                simp only [soft_Weights.l1] at H
                by_cases c16 : x41_2 < (x5_1.length : Int)
                · rw [if_pos c16] at H
                  have c16b0 : decide (x41_2 < (x5_1.length : Int)) = true := decide_eq_true c16
                  (try (have c16b0h0 := c16b0; simp only [hl5_2] at c16b0h0))
                  clear c16
                  by_cases c17 : 0 ≤ x41_2
                  · rw [if_pos c17] at H
                    have c17b0 : decide (0 ≤ x41_2) = true := decide_eq_true c17
                    (try (have c17b0h0 := c17b0; simp only [hl5_2] at c17b0h0))
                    clear c17
                    by_cases c18 : x41_2 < (x5_2.length : Int)
                    · rw [if_pos c18] at H
                      have c18b0 : decide (x41_2 < (x5_2.length : Int)) = true := decide_eq_true c18
                      (try (have c18b0h0 := c18b0; simp only [hl5_2] at c18b0h0))
                      clear c18
                      by_cases c19 : x6_1 = 0
                      · rw [if_pos c19] at H
                        exact absurd H (by simp)
                      · rw [if_neg c19] at H
                        have c19b0 : (x6_1 == 0) = false := beq_eq_false_iff_ne.mpr c19
                        (try (have c19b0h0 := c19b0; simp only [hl5_2] at c19b0h0))
                        have c19b1 : (x6_1 != 0) = true := bne_iff_ne.mpr c19
                        (try (have c19b1h0 := c19b1; simp only [hl5_2] at c19b1h0))
                        obtain ⟨y166, hy166⟩ : ∃ y_ : List Int, y_ = (x5_2.set (x41_2 : Int).toNat (wrap32 (wrap64 (Int.tdiv (wrap64 ((wrap64 (rd x5_2 x41_2)) * 65536)) x6_1)))) := ⟨_, rfl⟩
                        replace H : (soft_Weights.l1 k2 y166 x6_1 (x5_1.length : Int) (wrap64 (x41_2 + 1))) = some (r1, r2) := by first | (rw [hy166]; with_reducible exact H) | (have H2_ := (Option.bind_some _ _).symm.trans H; rw [hy166]; with_reducible exact H2_) | (have H2_ := (Option.bind_some _ _).symm.trans H; with_reducible exact H2_) | with_reducible exact H | (rw [hy166]; exact H) | exact H
                        have Ny166 := Aside0.mk hy166
                        clear hy166
                        have H' := Aside0.mk H
                        clear H
                        have p165 : 0 ≤ (x41_2 : Int) := of_decide_eq_true (by first | (with_reducible assumption) | assumption)
                        have q165 : x41_2 < (x5_2.length : Int) := of_decide_eq_true (by first | (with_reducible assumption) | assumption)
                        obtain ⟨ad165, e165, hx165_0⟩ := Kd.at_int (Kd.R_reads' HO_5.out).2.2 x41_2 p165 q165
                        cases e165
                        replace p165 := eq_true p165
                        replace q165 := eq_true q165
                        have p20 : 0 ≤ (x41_2 : Int) := of_decide_eq_true (by first | (with_reducible assumption) | assumption)
                        have q20 : (x41_2 : Int) < ((x5_2.length : Int) : Int) := of_decide_eq_true (by first | (with_reducible assumption) | assumption)
                        obtain ⟨go20, co20, eo20, gb20, gl20, cl20, HG20⟩ := Kd.R_form HO_5.out (by omega)
                        (first | cases eo20 | (injection eo20 with ea_ en_ ec_; (first | subst ea_ | (injection ea_ with ea_; subst ea_)); subst ec_; clear en_))
                        have GB20 := Aside0.mk gb20
                        have GG20 := Aside0.mk HG20
                        clear gb20 gl20 HG20
                        (first | simp only [add_plain] at hx165_0 | skip)
                        obtain ⟨hx20_0, hf20_0⟩ := Kd.R_celln 0 HO_5.out (x41_2 : Int) p20 q20
                        replace p20 := eq_true p20
                        replace q20 := eq_true q20
                        have HP21 := Kd.R_putg HO_5.out (x41_2 : Int) (wrap32 (wrap64 (Int.tdiv (wrap64 ((wrap64 (rd x5_2 x41_2)) * 65536)) x6_1)))
                        go_wp2_with (first | ((with_reducible refine gate_store (t := 72) (p := 54) rfl ?_); refine store_event (t := 72) (p := 54) (v := ?vo_w22) (w1 := (wr.setCell ⟨go20, (x41_2 : Int).toNat, none⟩ (.int .i32 (wrap32 (wrap64 (Int.tdiv (wrap64 ((wrap64 (rd x5_2 x41_2)) * 65536)) x6_1)))))) ?hg ?ho ?hn ?hr ?_; (case ho => rfl); (case hg => rfl); (case hn => rfl); (case hr => first | (go_simp; done) | (go_simp; rfl)); intro w22 hw; have hg : wr.grownBy w22 (some go20) := (by rw [hw]; exact HP21.2); have hp_ : Kd.R (Kd.int .i32) 72 w22 w.heap.size (fun _ => True) (.slice (some ⟨go20, 0, none⟩) x5_2.length co15) y166 := (by rw [hw, Ny166.out]; exact HP21.1); clear HP21; have n0_ := Aside0.mk (hp_); have n1_ := Aside0.mk ((by rw [hw]; exact below_set (HB.out) GB20.out : Below w.heap.size w w22)); clear HO_5; clear HB; have HO_5 := n0_; have HB := n1_; clear n0_ n1_; clear hg hw hp_))
                        (try simp only [← hl5_2])
                        go_roundg k2
                        case measure => have := HK1.out; have := HK2.out; omega
                        case rel => exact ⟨(y166), (wrap64 (x41_2 + 1)), (by first | rfl | (simp; done) | (simp [*]; done)), H', ⟨by have := HK1.out; have := HK2.out; omega⟩, ⟨by (try simp only [hl5_2]); (with_reducible repeat (first | apply Kd.R_alloc | apply Kd.R_drewN | apply Kd.R_drew)); exact HO_5.out⟩, ⟨by repeat (first | (with_reducible first | exact HB.out | apply below_alloc | apply pw_below_drewN | apply below_drew1) | exact HB.out)⟩⟩
                    · rw [if_neg c18] at H
                      exact absurd H (by simp)
                  · rw [if_neg c17] at H
                    exact absurd H (by simp)
                · rw [if_neg c16] at H
                  have c16b0 : decide (x41_2 < (x5_1.length : Int)) = false := decide_eq_false c16
                  (try (have c16b0h0 := c16b0; simp only [hl5_2] at c16b0h0))
                  clear c16
                  simp only [Option.some.injEq, Prod.mk.injEq] at H
                  obtain ⟨rfl, rfl⟩ := H
                  go_wp2
                  go_ret2
                  exact ⟨_, by first | rfl | (simp [errW_none, errW_some] <;> rfl) | (simp [*, errW_none, errW_some] <;> rfl), by (with_reducible repeat (first | apply Kd.R_alloc | apply Kd.R_drewN | apply Kd.R_drew)); exact HO_5.out, by repeat (first | (with_reducible first | exact HB.out | apply below_alloc | apply pw_below_drewN | apply below_drew1) | exact HB.out)⟩

end Go.Proofs.Ytepbebelbcbciaa.Q
