/- What functions of the program come to, on trees. No condition but those that the theorems name. -/
import Derived.WalkKit
import Derived.ProofKit
import Derived.Laws.Tables
import Derived.Laws.Rows
import Derived.Below
import Derived.Deep.Draws
import Derived.Deep.QuietTactic
import Derived.BigQuiet
import Derived.Tactics
import Derived.KernelRfl
import Derived.Test.YtjihjjbieeofdaaPO4
namespace Go.Proofs.Ytjihjjbieeofdaa.T
set_option linter.unusedSimpArgs false
set_option linter.unusedVariables false
open Go Go.RowKit
set_option linter.unusedVariables false
structure Aside0 (p : Prop) : Prop where mk :: (out : p)
def rd (xs : List Int) (i : Int) : Int := xs.getD i.toNat 0
def mn (a b : Int) : Int := if b < a then b else a
theorem pw_below_drewN {B : Nat} {w W : World} (h : Below B w W) (n : Nat) : Below B w (W.drewN n) := ⟨h.os, h.tape, h.output, h.size, h.block⟩
theorem below_alloc {w W : World} (h : Below w.heap.size w W) (o : Obj) : Below w.heap.size w (W.alloc o) := h.alloc h.size o
/-- The numbers of curve.Steps. -/
def curve_steps : List Int := [65536, 64830, 64132, 63441, 62757, 62081, 61413, 60751, 60097, 59449, 58809, 58176, 57549, 56929, 56316, 55709, 55109, 54515, 53928, 53347, 52773, 52204, 51642, 51085, 50535, 49991, 49452, 48920, 48393, 47871, 47356, 46846, 46341, 45842, 45348, 44859, 44376, 43898, 43425, 42958, 42495, 42037, 41584, 41136, 40693, 40255, 39821, 39392, 38968, 38548, 38133, 37722, 37316, 36914, 36516, 36123, 35734, 35349, 34968, 34591, 34219, 33850, 33486, 33125, 32768]
def curve_stepsV : Array Value := #[.int .i32 65536, .int .i32 64830, .int .i32 64132, .int .i32 63441, .int .i32 62757, .int .i32 62081, .int .i32 61413, .int .i32 60751, .int .i32 60097, .int .i32 59449, .int .i32 58809, .int .i32 58176, .int .i32 57549, .int .i32 56929, .int .i32 56316, .int .i32 55709, .int .i32 55109, .int .i32 54515, .int .i32 53928, .int .i32 53347, .int .i32 52773, .int .i32 52204, .int .i32 51642, .int .i32 51085, .int .i32 50535, .int .i32 49991, .int .i32 49452, .int .i32 48920, .int .i32 48393, .int .i32 47871, .int .i32 47356, .int .i32 46846, .int .i32 46341, .int .i32 45842, .int .i32 45348, .int .i32 44859, .int .i32 44376, .int .i32 43898, .int .i32 43425, .int .i32 42958, .int .i32 42495, .int .i32 42037, .int .i32 41584, .int .i32 41136, .int .i32 40693, .int .i32 40255, .int .i32 39821, .int .i32 39392, .int .i32 38968, .int .i32 38548, .int .i32 38133, .int .i32 37722, .int .i32 37316, .int .i32 36914, .int .i32 36516, .int .i32 36123, .int .i32 35734, .int .i32 35349, .int .i32 34968, .int .i32 34591, .int .i32 34219, .int .i32 33850, .int .i32 33486, .int .i32 33125, .int .i32 32768]
def curve_zerosV : Array Value := Array.replicate 65 (.int .i32 0)
theorem curve_Steps.zero (W : World) : (zeroValue 179).run Try.prog W = .ok (.agg curve_zerosV) W := by kernel_rfl
theorem curve_Steps.build_to {P : Program} {ops : Array Oper} {rest : List Oper} {o : Oper} {a : Act} {w : World} {Q : Exit → Act → World → Prop} (hg : o.guard = none) (t : TypeId) (parts : Array (Nat × Operand)) (ho : o.op = .build t parts) (cs : Array Value)
    (hf : P.built t (parts.map fun (i, x) => (i, a.eval x)).toList = some cs) (h : wpList P ops Q rest (a.put o.dst (.agg cs)) w) : wpList P ops Q (o :: rest) a w :=
  wpList_build hg t parts ho (by rw [hf]; rfl) (by rw [hf]; exact h)
theorem curve_Steps.below {B : Nat} {w W : World} (h : Below B w W) (g : Nat) (hg : B ≤ g) (cs : Array Value) : Below B w (W.setRow g cs) :=
  ⟨h.os, h.tape, h.output, by rw [size_setRow]; exact h.size, fun i hi => (setRow_other W g i cs (by omega)).trans (h.block i hi)⟩
set_option maxHeartbeats 4000000 in
set_option maxRecDepth 100000 in
theorem curve_Steps.calls (w : World) : Calls Try.prog 133 #[] w fun e w' => e = .returned (.agg curve_stepsV) ∧ Below w.heap.size w w' := by
  have hz := curve_Steps.zero
  go_enter Try.func133, Try.ntmps133
  go_wp2_with (first | (refine curve_Steps.build_to rfl 179 _ rfl curve_stepsV (by kernel_rfl) ?_) | (refine wpList_store_row rfl 179 _ _ rfl w.heap.size curve_stepsV rfl rfl 179 curve_zerosV (heap_alloc_new _ _) (by kernel_rfl) (by kernel_rfl) (by kernel_rfl) ?_))
  exact bodyPost_ret (results_cell_row rfl _ _ w.heap.size 179 curve_stepsV (0, 0) _ rfl (setRow_heap _ _ _ _ _ _ (heap_alloc_new _ _)) Try.underlying179 rfl (by kernel_rfl)) rfl ⟨rfl, curve_Steps.below (below_alloc (Below.refl _ _) _) _ (Nat.le_refl _) _⟩
theorem curve_Steps.at_ (j : Nat) (h : j < 65) : curve_stepsV[j]? = some (.int .i32 (rd curve_steps j)) := by
  have e : curve_stepsV = (curve_steps.map (Value.int .i32)).toArray := rfl
  have hl : curve_steps.length = 65 := rfl
  have hj : j < curve_steps.length := by omega
  rw [e]
  simp [rd, hj]
theorem curve_Steps.bounds : ∀ j : _root_.Fin 64, 32768 ≤ rd curve_steps (j.val : Nat) ∧ rd curve_steps (j.val : Nat) ≤ 65536 ∧ 32768 ≤ rd curve_steps ((j.val : Nat) + 1) ∧ rd curve_steps ((j.val : Nat) + 1) ≤ rd curve_steps (j.val : Nat) := by decide
theorem curve_Pow.num (a b R : Int) (m : Nat) (b1 : 32768 ≤ a) (b2 : a ≤ 65536) (b3 : 32768 ≤ b) (b4 : b ≤ a) (r0 : 0 ≤ R) (r1 : R < 1024) :
    wrap32 (wrap64 (wrap64 a - wrap64 (wrap64 (wrap64 (wrap64 a - wrap64 b) * R) + 512) / 1024) / 2 ^ m) = (a - ((a - b) * R + 512) / 1024) / 2 ^ m := by
  have w1 : wrap64 a = a := by unfold wrap64; omega
  have w2 : wrap64 b = b := by unfold wrap64; omega
  have w3 : wrap64 (a - b) = a - b := by unfold wrap64; omega
  have p0 : 0 ≤ (a - b) * R := Int.mul_nonneg (by omega) r0
  have p1 : (a - b) * R ≤ (a - b) * 1023 := Int.mul_le_mul_of_nonneg_left (by omega) (by omega)
  rw [w1, w2, w3]
  generalize (a - b) * R = p at *
  have w4 : wrap64 p = p := by unfold wrap64; omega
  rw [w4]
  have w5 : wrap64 (p + 512) = p + 512 := by unfold wrap64; omega
  rw [w5]
  have w6 : wrap64 (a - (p + 512) / 1024) = a - (p + 512) / 1024 := by unfold wrap64; omega
  rw [w6]
  have v0 : 0 ≤ a - (p + 512) / 1024 := by omega
  have v1 : a - (p + 512) / 1024 ≤ 65536 := by omega
  generalize a - (p + 512) / 1024 = v at *
  have q0 : 0 ≤ v / 2 ^ m := Int.ediv_nonneg v0 (Int.le_of_lt (Int.pow_pos (by decide)))
  have q1 : v / 2 ^ m ≤ v := Int.ediv_le_self _ v0
  unfold wrap32
  omega
/-- What curve.Pow comes to. -/
def curve_powY (a0 : Int) : Int := -(mn a0 0)
def curve_powV (y : Int) : Int := rd curve_steps (y / 1024 % 64) - ((rd curve_steps (y / 1024 % 64) - rd curve_steps (y / 1024 % 64 + 1)) * (y % 1024) + 512) / 1024
def curve_Pow.f (a0 : Int) : Option Int := if -2147483648 ≤ a0 ∧ a0 ≤ 2147483647 then some (curve_powV (curve_powY a0) / 2 ^ (mn (curve_powY a0 / 65536) 62).toNat) else none
theorem curve_Pow.mask63 (y : Int) (h0 : 0 ≤ y) (h1 : y ≤ 2147483648) : bits .and .i64 (y / 1024) 63 = y / 1024 % 64 :=
  bits_mask .i64 62 (by decide) (fun n h0 h1 => by rw [IntKind.wrap_i64]; omega) 6 (by decide) (y / 1024) (by omega) (by omega)
theorem curve_Pow.mask1023 (y : Int) (h0 : 0 ≤ y) (h1 : y ≤ 2147483648) : bits .and .i64 y 1023 = y % 1024 :=
  bits_mask .i64 62 (by decide) (fun n h0 h1 => by rw [IntKind.wrap_i64]; omega) 10 (by decide) y (by omega) (by omega)
theorem ret_num {k : IntKind} {a b : Int} (h : a = b) : Ending.returned (.int k a) = .returned (.int k b) := by rw [h]
set_option maxHeartbeats 4000000 in
set_option maxRecDepth 100000 in
theorem curve_Pow.calls_neg (y : Int) (h0 : 0 ≤ y) (h1 : y ≤ 2147483648) (w : World) :
    Calls Try.prog 125 #[.int .i32 (-y)] w fun e w' => e = .returned (.int .i32 (curve_powV y / 2 ^ (mn (y / 65536) 62).toNat)) ∧ Below w.heap.size w w' := by
  have hz := curve_Steps.zero
  have k1 := curve_Pow.mask63 y h0 h1
  have k2 := curve_Pow.mask1023 y h0 h1
  have k3 : ¬ (0 < -y) := by omega
  have k4 : 0 ≤ y / 1024 % 64 := by omega
  have k5 : y / 1024 % 64 < 64 := by omega
  go_enter Try.func125, Try.ntmps125
  go_wp2_with (first | (go_at_call 133; refine (curve_Steps.calls _).mono ?_; rintro e w1 ⟨rfl, hb⟩; have HB := Aside0.mk hb; clear hb) | (refine wpList_store_row rfl 179 _ _ rfl _ curve_stepsV rfl rfl 179 curve_zerosV (heap_alloc_new _ _) (by kernel_rfl) (by kernel_rfl) (by kernel_rfl) ?_))
  (try simp only [Act.put])
  obtain ⟨n, hn⟩ : ∃ n : Nat, y / 1024 % 64 = n := ⟨(y / 1024 % 64).toNat, by omega⟩
  have hn64 : n < 64 := by omega
  have HG := Aside0.mk (setRow_heap (w1.alloc (Obj.cells curve_zerosV 179)) w1.heap.size curve_zerosV curve_stepsV 179 (0, 0) (heap_alloc_new _ _))
  have HB2 := Aside0.mk (curve_Steps.below (below_alloc HB.out (Obj.cells curve_zerosV 179)) w1.heap.size HB.out.size curve_stepsV)
  rw [hn]
  have Hn := Aside0.mk hn
  clear hn hz k1 k2 k3 k4 k5
  generalize (w1.alloc (Obj.cells curve_zerosV 179)).setRow w1.heap.size curve_stepsV = W2 at *
  have c1 : W2.cell? ⟨w1.heap.size, n, none⟩ = some (.int .i32 (rd curve_steps n)) := (cell_of_row _ _ _ _ _ _ HG.out).trans (curve_Steps.at_ n (by omega))
  have c2 : W2.cell? ⟨w1.heap.size, n + 1, none⟩ = some (.int .i32 (rd curve_steps (n + 1))) := (cell_of_row _ _ _ _ _ _ HG.out).trans (curve_Steps.at_ (n + 1) (by omega))
  go_quiet (fail)
  have hbd := curve_Steps.bounds ⟨n, hn64⟩
  simp only at hbd
  have HV : Aside0 (curve_powV y = rd curve_steps n - ((rd curve_steps n - rd curve_steps (n + 1)) * (y % 1024) + 512) / 1024) := ⟨by unfold curve_powV; rw [Hn.out]⟩
  clear c1 c2
  generalize rd curve_steps (n + 1) = b at *
  generalize rd curve_steps n = a at *
  obtain ⟨b1, b2, b3, b4⟩ := hbd
  have hR0 : 0 ≤ y % 1024 := by omega
  have hR1 : y % 1024 < 1024 := by omega
  have HR := Aside0.mk (fun m => curve_Pow.num a b (y % 1024) m b1 b2 b3 b4 hR0 hR1)
  have hy : ∀ m : Nat, wrap32 (wrap64 (wrap64 a - wrap64 (wrap64 (wrap64 (wrap64 a - wrap64 b) * (y % 1024)) + 512) / 1024) / 2 ^ m) = curve_powV y / 2 ^ m := fun m => by rw [HV.out]; exact HR.out m
  have HY := Aside0.mk hy
  clear hy HR hR0 hR1
  go_wp2
  · go_ret
    refine ⟨?_, pw_below_drewN HB2.out _⟩
    rw [show mn (y / 65536) 62 = 62 by unfold mn; rw [if_pos (by assumption)]]
    have h_ := HY.out 62
    have e_ : (2 : Int) ^ 62 = 4611686018427387904 := by decide
    have e2_ : (2 : Int) ^ (62 : Int).toNat = 4611686018427387904 := by decide
    rw [e2_]
    rw [e_] at h_
    exact ret_num h_
  · go_ret
    refine ⟨?_, pw_below_drewN HB2.out _⟩
    rw [show mn (y / 65536) 62 = y / 65536 by unfold mn; rw [if_neg (by omega)]]
    exact ret_num (HY.out _)
set_option maxHeartbeats 4000000 in
set_option maxRecDepth 100000 in
theorem curve_Pow.calls_pos (a0 : Int) (h0 : 0 < a0) (h1 : a0 ≤ 2147483647) (w : World) :
    Calls Try.prog 125 #[.int .i32 a0] w fun e w' => e = .returned (.int .i32 65536) ∧ Below w.heap.size w w' := by
  have hz := curve_Steps.zero
  have k3 : ¬ (a0 ≤ 0) := by omega
  obtain ⟨n, hn⟩ : ∃ n : Nat, n = 0 := ⟨0, rfl⟩
  have hn64 : n < 64 := by omega
  have k1 : bits .and .i64 0 63 = n := by rw [hn]; decide
  have Hn := Aside0.mk hn
  clear hn
  have k2 : bits .and .i64 0 1023 = 0 := by decide
  go_enter Try.func125, Try.ntmps125
  go_wp2_with (first | (go_at_call 133; refine (curve_Steps.calls _).mono ?_; rintro e w1 ⟨rfl, hb⟩; have HB := Aside0.mk hb; clear hb) | (refine wpList_store_row rfl 179 _ _ rfl _ curve_stepsV rfl rfl 179 curve_zerosV (heap_alloc_new _ _) (by kernel_rfl) (by kernel_rfl) (by kernel_rfl) ?_))
  (try simp only [Act.put])
  have HG := Aside0.mk (setRow_heap (w1.alloc (Obj.cells curve_zerosV 179)) w1.heap.size curve_zerosV curve_stepsV 179 (0, 0) (heap_alloc_new _ _))
  have HB2 := Aside0.mk (curve_Steps.below (below_alloc HB.out (Obj.cells curve_zerosV 179)) w1.heap.size HB.out.size curve_stepsV)
  clear hz k1 k2
  generalize (w1.alloc (Obj.cells curve_zerosV 179)).setRow w1.heap.size curve_stepsV = W2 at *
  have c1 : W2.cell? ⟨w1.heap.size, n, none⟩ = some (.int .i32 65536) := (cell_of_row _ _ _ _ _ _ HG.out).trans (by rw [Hn.out]; exact curve_Steps.at_ 0 (by omega))
  have c2 : W2.cell? ⟨w1.heap.size, n + 1, none⟩ = some (.int .i32 64830) := (cell_of_row _ _ _ _ _ _ HG.out).trans (by rw [Hn.out]; exact curve_Steps.at_ 1 (by omega))
  go_quiet (fail)
  clear c1 c2
  go_wp2
  all_goals (go_ret; exact ⟨rfl, pw_below_drewN HB2.out _⟩)
theorem curve_Pow.calls (a0 : Int) (r : Int) (w : World) (h : curve_Pow.f a0 = some r) :
    Calls Try.prog 125 #[.int .i32 a0] w fun e w' => e = .returned (.int .i32 r) ∧ Below w.heap.size w w' := by
  unfold curve_Pow.f at h
  by_cases hb : -2147483648 ≤ a0 ∧ a0 ≤ 2147483647
  · rw [if_pos hb] at h
    obtain rfl := Option.some.inj h
    by_cases h0 : 0 < a0
    · have hy : curve_powY a0 = 0 := by unfold curve_powY mn; rw [if_pos h0]; rfl
      rw [hy]
      exact curve_Pow.calls_pos a0 h0 hb.2 w
    · have hy : curve_powY a0 = -a0 := by unfold curve_powY mn; rw [if_neg h0]
      rw [hy]
      have := curve_Pow.calls_neg (-a0) (by omega) (by omega) w
      rw [Int.neg_neg] at this
      exact this
  · rw [if_neg hb] at h
    cases h
theorem powV_eq (y : Int) : curve_powV y = powV y := by
  have e : (y / 1024 % 64 + 1).toNat = (y / 1024 % 64).toNat + 1 := by omega
  unfold curve_powV powV rd
  rw [e]; rfl
theorem pow_eq {x : Int} (h : I32 x) : curve_Pow.f x = some (sPow x) := by
  unfold curve_Pow.f
  rw [if_pos h]
  unfold sPow curve_powY
  by_cases h0 : 0 < x
  · have e : mn x 0 = 0 := by unfold mn; rw [if_pos h0]
    rw [if_pos h0, e]; decide
  · have e : mn x 0 = x := by unfold mn; rw [if_neg h0]
    rw [if_neg h0, e, powV_eq]
    have e2 : mn (-x / 65536) 62 = if 62 < -x / 65536 then 62 else -x / 65536 := rfl
    rw [e2]
theorem pow_ok {x : Int} (h : I32 x) : Impl Try.prog 125 [.i .i32 x] (.i .i32 (sPow x)) := by
  refine headOk_impl rfl ⟨⟨Try.f125, by kernel_rfl, by kernel_rfl, rfl⟩, fun F w vs hs hv hF => ?_⟩
  have hs : vs.size = 1 := hs
  have h0 := hv 0 _ (vs[0]'(by omega)) rfl (Array.getElem?_eq_getElem _)
  have h0 : Rp w F (.i .i32 x) [vs[0]'(by omega)] [] := h0
  have hvs : vs = #[.int .i32 x] := by
    apply Array.ext
    · simp [hs]
    · intro i h1 h2
      have : i = 0 := by omega
      subst this
      generalize vs[0] = u at h0
      cases h0; rfl
  subst hvs
  refine (curve_Pow.calls x (sPow x) w (pow_eq h)).mono fun e w' hh => ?_
  obtain ⟨he, hbel⟩ := hh
  exact ⟨_, fun _ => False, [], he, hbel, .i _ _, List.nodup_nil, fun b hb => (by cases hb), fun b hb => False.elim hb⟩
end Go.Proofs.Ytjihjjbieeofdaa.T
namespace Go.Proofs.Ytjihjjbieeofdaa.T
set_option linter.unusedSimpArgs false
set_option linter.unusedVariables false
open Go
set_option linter.unusedVariables false
set_option maxHeartbeats 2000000
theorem ex_callb {P : Program} {f : Nat} {al : List AV} {k : IntKind} {r a b : Int} {q : AV → Prop} (h : Impl P f al (.i k r)) (hb : a ≤ r ∧ r ≤ b) (hq : ∀ v, v = r → a ≤ v → v ≤ b → q (.i k v)) : ∃ v, Impl P f al v ∧ q v := ⟨_, h, hq r rfl hb.1 hb.2⟩
theorem mp_set {α : Type} {n i : Nat} {F G : Nat → α} {v : α} (h : ∀ j, j < n → G j = if j = i then v else F j) : (mp n F).set i v = mp n G := by
  refine List.ext_getElem (by rw [List.length_set, mp_len, mp_len]) fun j h1 h2 => ?_
  rw [mp_len] at h2
  rw [List.getElem_set]
  have e1 : (mp n G)[j]'(by rw [mp_len]; exact h2) = G j := by simp [mp]
  rw [e1, h j h2]
  split
  · rename_i e; rw [if_pos e.symm]
  · rename_i e; rw [if_neg (fun e2 => e e2.symm)]; simp [mp]
theorem ints_put {k : IntKind} {n i : Nat} {F G : Nat → Int} {v : Int} (h : ∀ j, j < n → G j = if j = i then v else F j) : (ints k (mp n F)).set i (.i k v) = ints k (mp n G) := by
  rw [ints_set, mp_set h]
theorem mean_num {l : List Int} (h0 : 0 < l.length) : 0 ≤ sSq l / l.length ∧ sSq l / l.length ≤ 9223372036854775807 := by
  have h1 := sSq_nonneg l
  have h2 := (growN_big (fun j => l.getD j 0 * l.getD j 0) l.length).2
  have h3 : sSq l / l.length ≤ sSq l := Int.ediv_le_self _ h1
  have h4 : sSq l ≤ 9223372036854775807 := h2
  exact ⟨Int.ediv_nonneg h1 (by omega), by omega⟩
def eMean : Env := ⟨tbl, [], [], [], [(0, [0]), (1, [0, 9]), (2, [2, 3]), (3, [0, 12]), (4, [2, 3]), (5, [0, 4]), (6, [0, 4, 13, 14, 15]), (7, [0, 4, 13, 14, 15, 16]), (8, [0, 4, 6, 13, 14, 15]), (9, [0, 4, 13, 14, 15]), (10, [0, 4, 13, 14, 15]), (11, [2, 3])]⟩
theorem mean_ok {na : Option Bool} {l : List Int} (h0 : 0 < l.length) (hl : l.length ≤ 4096) (hw : I32s l) : Impl Try.prog 101 [.sl none na 1 false (ints .i32 l)] (.tup [.i .i32 (sMean l), .i .i64 0]) := by
  have hm := mean_num h0
  have hq := sSq_nonneg l
  have hq2 : sSq l ≤ 9223372036854775807 := (growN_big (fun j => l.getD j 0 * l.getD j 0) l.length).2
  refine impl_of (fn := Try.f101) tbl_ok (by kernel_rfl) (by kernel_rfl) rfl ⟨by simp [Try.f101], by decide⟩ rfl fun W0 => ?_
  repeat' first
    | apply WP.seq
    | (apply WP.region (E := eMean) mixed tbl_ok; conv => whnf)
    | (apply WP.cond; conv => whnf)
    | (apply WP.skip; conv => whnf)
    | apply WP.block
    | (apply reg_and; (· kernel_rfl); conv => whnf)
    | (apply ex_ilen; conv => whnf)
    | (apply ex_eq; conv => whnf)
    | (apply And.intro; (· first | with_reducible rfl | exact trivial | exact Or.inl ⟨rfl, rfl⟩ | exact Or.inr rfl | decide | omega | (apply Nat.le_of_ble_eq_true; rfl) | (dsimp only; omega) | (simp only [ints_len, gl_len, mp_len, List.length_cons, List.length_nil, List.length_drop, List.length_take]; omega)); conv => whnf)
    | (apply br_no; (· omega); conv => whnf)
    | fail
  refine WP.loopM [4, 15, 6, 16] (fun i : Nat => [(4, .i .i64 (growN (fun j => l.getD j 0 * l.getD j 0) i)), (15, .i .i64 i)]) (fun i => i ≤ l.length) (fun i => l.length - i) 0 ?_
  conv => whnf
  refine And.intro (And.intro ?_ ?_) (fun i hi => ?_)
  · first | omega | trivial | skip
  · conv => whnf
    repeat' first
      | apply True.intro
      | (apply ptr_and; (· kernel_rfl); conv => whnf)
      | omega
      | (apply Or.inr; rfl)
      | (apply or_row; (· rfl); (· rfl); rfl)
      | (apply And.intro <;> conv => whnf)
      | rfl
      | fail
  conv => whnf
  have hg := growN_big (fun j => l.getD j 0 * l.getD j 0) i
  have he : ¬ i < l.length → growN (fun j => l.getD j 0 * l.getD j 0) i = sSq l := fun h => by rw [show i = l.length by omega]; rfl
  repeat' first
    | apply WP.seq
    | (apply WP.region (E := eMean) mixed tbl_ok; conv => whnf)
    | (apply WP.cond; conv => whnf)
    | (apply WP.skip; conv => whnf)
    | (apply WP.ret; conv => whnf)
    | (apply WP.exit; conv => whnf)
    | apply WP.block
    | (rw [he (by omega)]; conv => whnf)
    | (apply ex_shr 16; (· rfl); conv => whnf)
    | (apply reg_and; (· kernel_rfl); conv => whnf)
    | (apply ex_and; (· with_reducible exact grow_ok hg ⟨by omega, by omega⟩); conv => whnf)
    | (apply ex_and; (· with_reducible exact sat_ok _); conv => whnf)
    | (apply ex_ilen; conv => whnf)
    | (apply ex_i64; (· omega); conv => whnf)
    | (apply ex_mul; (· omega); (· omega); (· omega); (· omega); intro m hm hm1 hm2; conv => whnf)
    | (apply ex_quo; (· omega); conv => whnf)
    | (apply ex_num; (· assumption); (· omega); intro x hx hx1 hx2; conv => whnf)
    | (apply ex_eq; conv => whnf)
    | (apply nd_ints; (· omega); conv => whnf)
    | (apply nodup_and; (· exact of_decide_eq_true (by kernel_rfl)); conv => whnf)
    | (apply And.intro; (· first | with_reducible rfl | exact trivial | exact Or.inl ⟨rfl, rfl⟩ | exact Or.inr rfl | decide | omega | (apply Nat.le_of_ble_eq_true; rfl) | (dsimp only; omega) | (simp only [ints_len, gl_len, mp_len, List.length_cons, List.length_nil, List.length_drop, List.length_take]; omega)); conv => whnf)
    | (apply br_dec <;> intro hbr <;> (first | rw [decide_eq_true hbr] | rw [decide_eq_false hbr] | skip) <;> conv => whnf)
    | apply True.intro
    | (apply And.intro <;> conv => whnf)
    | fail
  · refine Exists.intro (i + 1) (And.intro (And.intro ?_ ?_) ?_)
    · first | omega | skip
    · first | omega | skip
    conv => whnf
    repeat' first
      | apply True.intro
      | (apply ptr_and; (· kernel_rfl); conv => whnf)
      | omega
      | (apply Or.inr; rfl)
      | (apply or_row; (· rfl); (· rfl); rfl)
      | (apply And.intro <;> conv => whnf)
      | (subst_vars; rfl)
      | fail
  · rfl
def eNorm : Env := ⟨tbl, [], [], [], [(0, [0, 1]), (1, [0, 1, 6, 7]), (2, [0, 1, 6, 7, 18]), (3, [4, 5]), (4, [0, 1, 6, 24]), (5, [4, 5]), (6, [0, 1, 8]), (7, [0, 1, 8, 9]), (8, [1, 8, 9, 28, 29, 30]), (9, [1, 8, 9, 28, 29, 30, 31]), (10, [1, 8, 9, 10, 11, 28, 29, 30]), (11, [1, 8, 9, 28, 29, 30]), (12, [1, 8, 9, 28, 29, 30]), (13, [4, 5])]⟩
theorem norm_ok {na ng : Option Bool} {l g : List Int} (h0 : 0 < l.length) (hl : l.length ≤ 4096) (hg : g.length = l.length) (hw : I32s l) (hwg : I32s g) : Impl Try.prog 88 [.sl none na 1 false (ints .i32 l), .sl none ng 1 false (ints .i32 g)] (.tup [rowA (some 0) (sNorm l g), .i .i64 0]) := by
  have hm := sMean_i32 l
  have hk := sInv_i32 (sSat_i32 (sMean l + 1))
  refine impl_of (fn := Try.f88) tbl_ok (by kernel_rfl) (by kernel_rfl) rfl ⟨by simp [Try.f88], by decide⟩ rfl fun W0 => ?_
  repeat' first
    | apply WP.seq
    | (apply WP.region (E := eNorm) mixed tbl_ok; conv => whnf)
    | (apply WP.cond; conv => whnf)
    | (apply WP.skip; conv => whnf)
    | apply WP.block
    | (apply reg_and; (· kernel_rfl); conv => whnf)
    | (apply ex_and; (· with_reducible exact mean_ok h0 hl hw); conv => whnf)
    | (apply ex_and; (· with_reducible exact add_ok _ _ hm ⟨by decide, by decide⟩); conv => whnf)
    | (apply ex_and; (· with_reducible exact inv_ok (sSat_i32 _)); conv => whnf)
    | (apply ex_ilen; conv => whnf)
    | (apply ex_eq; conv => whnf)
    | (apply And.intro; (· first | with_reducible rfl | exact trivial | exact Or.inl ⟨rfl, rfl⟩ | exact Or.inr rfl | decide | omega | (apply Nat.le_of_ble_eq_true; rfl) | (dsimp only; omega) | (simp only [ints_len, gl_len, mp_len, List.length_cons, List.length_nil, List.length_drop, List.length_take]; omega)); conv => whnf)
    | apply br_not
    | (apply br_t; conv => whnf)
    | (apply br_yes; (· omega); conv => whnf)
    | fail
  refine WP.loopM [9, 30, 10, 11, 31] (fun i : Nat => [(9, .sl (some 0) none 1 false (ints .i32 (mp i fun j => sMul (sMul (l.getD j 0) (sInv (sSat (sMean l + 1)))) (g.getD j 0)))), (30, .i .i64 i)]) (fun i => i ≤ l.length) (fun i => l.length - i) 0 ?_
  conv => whnf
  refine And.intro (And.intro ?_ ?_) (fun i hi => ?_)
  · first | omega | trivial | skip
  · conv => whnf
    repeat' first
      | apply True.intro
      | (apply ptr_and; (· kernel_rfl); conv => whnf)
      | omega
      | (apply Or.inr; rfl)
      | (apply Or.inl; rfl)
      | (apply or_row; (· rfl); (· rfl); rfl)
      | (apply Or.inr; apply And.intro; (· rfl); rfl)
      | (apply And.intro <;> conv => whnf)
      | fail
  conv => whnf
  repeat' first
    | apply WP.seq
    | (apply WP.region (E := eNorm) mixed tbl_ok; conv => whnf)
    | (apply WP.cond; conv => whnf)
    | (apply WP.skip; conv => whnf)
    | (apply WP.ret; conv => whnf)
    | (apply WP.exit; conv => whnf)
    | apply WP.block
    | (apply reg_and; (· kernel_rfl); conv => whnf)
    | (apply ex_and; (· with_reducible exact mul_ok _ _ ⟨by omega, by omega⟩ hk); conv => whnf)
    | (apply ex_and; (· with_reducible exact mul_ok _ _ (sMul_i32 _ _) ⟨by omega, by omega⟩); conv => whnf)
    | (apply ex_i64; (· omega); conv => whnf)
    | (apply ex_num; (· assumption); (· omega); intro x hx hx1 hx2; conv => whnf)
    | (apply ex_eq; conv => whnf)
    | (apply nd_ints; (· omega); conv => whnf)
    | (apply nodup_and; (· exact of_decide_eq_true (by kernel_rfl)); conv => whnf)
    | (apply And.intro; (· first | with_reducible rfl | exact trivial | exact Or.inl ⟨rfl, rfl⟩ | exact Or.inr rfl | decide | omega | (apply Nat.le_of_ble_eq_true; rfl) | (dsimp only; omega) | (simp only [ints_len, gl_len, mp_len, List.length_cons, List.length_nil, List.length_drop, List.length_take]; omega)); conv => whnf)
    | (apply br_dec <;> intro hbr <;> (first | rw [decide_eq_true hbr] | rw [decide_eq_false hbr] | skip) <;> conv => whnf)
    | apply True.intro
    | (apply And.intro <;> conv => whnf)
    | fail
  · refine Exists.intro (i + 1) (And.intro (And.intro ?_ ?_) ?_)
    · first | omega | skip
    · first | omega | skip
    conv => whnf
    repeat' first
      | apply True.intro
      | (apply ptr_and; (· kernel_rfl); conv => whnf)
      | omega
      | (apply Or.inr; rfl)
      | (apply Or.inl; rfl)
      | (apply or_row; (· rfl); (· rfl); rfl)
      | (apply or_row; (· rfl); (· rfl); apply ints_mp; subst_vars; rfl)
      | (apply And.intro <;> conv => whnf)
      | fail
  · have e : i = l.length := by omega
    subst e
    repeat' first
      | (apply or_row; (· rfl); (· rfl); rfl)
      | fail
/-! the greatest one -/
theorem topN_one (l : List Int) : l.getD 0 0 = topN l 1 := by
  show _ = if l.getD 0 0 > l.getD 0 0 then l.getD 0 0 else l.getD 0 0
  split <;> rfl
def eMax : Env := ⟨tbl, [], [], [], [(0, [0]), (1, [0, 7]), (2, [0]), (3, [0, 3]), (4, [0, 3, 4]), (5, [0, 3, 4, 15]), (6, [0, 3, 4]), (7, [0, 3, 4]), (8, [2])]⟩
theorem max_ok {na : Option Bool} {l : List Int} (h0 : 0 < l.length) (hl : l.length ≤ 4096) (hw : I32s l) : Impl Try.prog 79 [.sl none na 1 false (ints .i32 l)] (.i .i32 (sTop l)) := by
  refine impl_of (fn := Try.f79) tbl_ok (by kernel_rfl) (by kernel_rfl) rfl ⟨by simp [Try.f79], by decide⟩ rfl fun W0 => ?_
  repeat' first
    | apply WP.seq
    | (apply WP.region (E := eMax) mixed tbl_ok; conv => whnf)
    | (apply WP.cond; conv => whnf)
    | (apply WP.skip; conv => whnf)
    | apply WP.block
    | (apply reg_and; (· kernel_rfl); conv => whnf)
    | (apply ex_ilen; conv => whnf)
    | (apply ex_num; (· assumption); (· omega); intro x hx hx1 hx2; conv => whnf)
    | (apply ex_eq; conv => whnf)
    | (apply nd_ints; (· omega); conv => whnf)
    | (apply And.intro; (· first | with_reducible rfl | exact trivial | exact Or.inl ⟨rfl, rfl⟩ | exact Or.inr rfl | decide | omega | (apply Nat.le_of_ble_eq_true; rfl) | (dsimp only; omega) | (simp only [ints_len, gl_len, mp_len, List.length_cons, List.length_nil, List.length_drop, List.length_take]; omega)); conv => whnf)
    | (apply br_no; (· omega); conv => whnf)
    | fail
  refine WP.loopM [3, 4] (fun i : Nat => [(3, .i .i32 (topN l i)), (4, .i .i64 i)]) (fun i => 1 ≤ i ∧ i ≤ l.length) (fun i => l.length - i) 1 ?_
  conv => whnf
  refine And.intro (And.intro ?_ ?_) (fun i hi => ?_)
  · omega
  · conv => whnf
    repeat' first
      | apply True.intro
      | (apply ptr_and; (· kernel_rfl); conv => whnf)
      | omega
      | (apply Or.inr; rfl)
      | (apply or_row; (· rfl); (· rfl); rfl)
      | (apply And.intro <;> conv => whnf)
      | (subst_vars; exact topN_one l)
      | fail
  conv => whnf
  repeat' first
    | apply WP.seq
    | (apply WP.region (E := eMax) mixed tbl_ok; conv => whnf)
    | (apply WP.cond; conv => whnf)
    | (apply WP.skip; conv => whnf)
    | (apply WP.ret; conv => whnf)
    | (apply WP.exit; conv => whnf)
    | apply WP.block
    | (apply reg_and; (· kernel_rfl); conv => whnf)
    | (apply ex_ilen; conv => whnf)
    | (apply ex_i64; (· omega); conv => whnf)
    | (apply ex_num; (· assumption); (· omega); intro x hx hx1 hx2; conv => whnf)
    | (apply ex_eq; conv => whnf)
    | (apply nd_ints; (· omega); conv => whnf)
    | (apply And.intro; (· first | with_reducible rfl | exact trivial | exact Or.inl ⟨rfl, rfl⟩ | exact Or.inr rfl | decide | omega | (apply Nat.le_of_ble_eq_true; rfl) | (dsimp only; omega) | (simp only [ints_len, gl_len, mp_len, List.length_cons, List.length_nil, List.length_drop, List.length_take]; omega)); conv => whnf)
    | (apply br_dec <;> intro hbr <;> (first | rw [decide_eq_true hbr] | rw [decide_eq_false hbr] | skip) <;> conv => whnf)
    | fail
  · refine Exists.intro (i + 1) (And.intro (And.intro ?_ ?_) ?_)
    · first | omega | skip
    · first | omega | skip
    conv => whnf
    repeat' first
      | apply True.intro
      | (apply ptr_and; (· kernel_rfl); conv => whnf)
      | omega
      | (apply Or.inr; rfl)
      | (apply or_row; (· rfl); (· rfl); rfl)
      | (apply And.intro <;> conv => whnf)
      | (subst_vars; rfl)
      | fail
  · have e : i = l.length := by omega
    subst e
    rfl
/-- The first place of the greatest one among the first n; -1: there is none. -/
def argN (l : List Int) : Nat → Int
  | 0 => -1
  | n + 1 => if argN l n < 0 then (n : Int) else if l.getD n 0 > l.getD (argN l n).toNat 0 then (n : Int) else argN l n
theorem argN_in (l : List Int) : ∀ n : Nat, -1 ≤ argN l n ∧ argN l n < n ∧ (0 < n → 0 ≤ argN l n)
  | 0 => by unfold argN; omega
  | n + 1 => by
    have := argN_in l n
    unfold argN
    repeat' split
    all_goals omega
theorem argN_top (l : List Int) : ∀ n : Nat, 0 < n → l.getD (argN l n).toNat 0 = topN l n
  | 0, h => absurd h (by omega)
  | n + 1, _ => by
    have h1 := argN_in l n
    by_cases h0 : n = 0
    · subst h0
      rw [← topN_one]; rfl
    · have h2 := argN_top l n (by omega)
      unfold argN topN
      rw [if_neg (by omega), ← h2]
      split
      · rw [Int.toNat_natCast]
      · rfl
/-! weights -/
theorem sumN_small (l : List Int) {n : Nat} (h : n ≤ 4096) : 0 ≤ sumN (sP l) n ∧ sumN (sP l) n ≤ 268435456 := by
  have := sumN_in (sP_in l) n
  omega
theorem w_small {l : List Int} (h : 0 < l.length) (j : Nat) (hj : j < l.length) : 0 ≤ sP l j * 65536 / sumN (sP l) l.length ∧ sP l j * 65536 / sumN (sP l) l.length ≤ 65536 :=
  sW_in h _ (List.mem_map.2 ⟨j, List.mem_range.2 hj, rfl⟩)
def eWeights : Env := ⟨tbl, [], [], [], [(0, [0]), (1, [0, 14]), (2, [2, 3]), (3, [0, 17]), (4, [2, 3]), (5, [0, 4]), (6, [0, 4, 5]), (7, [0, 4, 5, 6]), (8, [4, 5, 6, 20, 21, 22]), (9, [4, 5, 6, 20, 21, 22, 23]), (10, [4, 5, 6, 8, 20, 21, 22]), (11, [4, 5, 6, 9, 20, 21, 22]), (12, [4, 5, 6, 9, 20, 21, 22]), (13, [4, 5, 6, 20, 21, 22]), (14, [4, 5, 6, 20, 21, 22]), (15, [5, 6, 39, 40, 41]), (16, [5, 6, 39, 40, 41, 42]), (17, [5, 6, 10, 11, 39, 40, 41]), (18, [5, 6, 39, 40, 41]), (19, [5, 6, 39, 40, 41]), (20, [2, 3])]⟩
theorem weights_ok {na : Option Bool} {l : List Int} (h0 : 0 < l.length) (hl : l.length ≤ 4096) (hw : I32s l) : Impl Try.prog 108 [.sl none na 1 false (ints .i32 l)] (.tup [rowA (some 0) (sW l), .i .i64 0]) := by
  have ht := sTop_i32 hw
  refine impl_of (fn := Try.f108) tbl_ok (by kernel_rfl) (by kernel_rfl) rfl ⟨by simp [Try.f108], by decide⟩ rfl fun W0 => ?_
  repeat' first
    | apply WP.seq
    | (apply WP.region (E := eWeights) mixed tbl_ok; conv => whnf)
    | (apply WP.cond; conv => whnf)
    | (apply WP.skip; conv => whnf)
    | apply WP.block
    | (apply reg_and; (· kernel_rfl); conv => whnf)
    | (apply ex_and; (· with_reducible exact max_ok h0 hl hw); conv => whnf)
    | (apply ex_ilen; conv => whnf)
    | (apply ex_eq; conv => whnf)
    | (apply And.intro; (· first | with_reducible rfl | exact trivial | exact Or.inl ⟨rfl, rfl⟩ | exact Or.inr rfl | decide | omega | (apply Nat.le_of_ble_eq_true; rfl) | (dsimp only; omega) | (simp only [ints_len, gl_len, mp_len, List.length_cons, List.length_nil, List.length_drop, List.length_take]; omega)); conv => whnf)
    | (apply br_no; (· omega); conv => whnf)
    | fail
  refine WP.loopM [5, 6, 22, 8, 9, 23] (fun i : Nat => [(5, .sl (some 0) none 1 false (ints .i32 (mp i (sP l)))), (6, .i .i64 (sumN (sP l) i)), (22, .i .i64 i)]) (fun i => i ≤ l.length) (fun i => l.length - i) 0 ?_
  conv => whnf
  refine And.intro (And.intro ?_ ?_) (fun i hi => ?_)
  · first | omega | trivial | skip
  · conv => whnf
    repeat' first
      | apply True.intro
      | (apply ptr_and; (· kernel_rfl); conv => whnf)
      | omega
      | (apply Or.inr; rfl)
      | (apply Or.inl; rfl)
      | (apply or_row; (· rfl); (· rfl); rfl)
      | (apply Or.inr; apply And.intro; (· rfl); rfl)
      | (apply And.intro <;> conv => whnf)
      | rfl
      | fail
  conv => whnf
  obtain ⟨u0, u1⟩ := sumN_small l (n := i) (by omega)
  repeat' first
    | apply WP.seq
    | (apply WP.region (E := eWeights) mixed tbl_ok; conv => whnf)
    | (apply WP.cond; conv => whnf)
    | (apply WP.skip; conv => whnf)
    | (apply WP.exit; conv => whnf)
    | apply WP.block
    | (apply ex_callb (pow_ok (sSat_i32 _)) (sPow_in _); intro v hv hv1 hv2; conv => whnf)
    | (apply reg_and; (· kernel_rfl); conv => whnf)
    | (apply ex_and; (· with_reducible exact sub_ok _ _ ⟨by omega, by omega⟩ ht); conv => whnf)
    | (apply ex_ilen; conv => whnf)
    | (apply ex_i64; (· omega); conv => whnf)
    | (apply ex_num; (· assumption); (· omega); intro x hx hx1 hx2; conv => whnf)
    | (apply ex_eq; conv => whnf)
    | (apply nd_ints; (· omega); conv => whnf)
    | (apply And.intro; (· first | with_reducible rfl | exact trivial | exact Or.inl ⟨rfl, rfl⟩ | exact Or.inr rfl | decide | omega | (apply Nat.le_of_ble_eq_true; rfl) | (dsimp only; omega) | (simp only [ints_len, gl_len, mp_len, List.length_cons, List.length_nil, List.length_drop, List.length_take]; omega)); conv => whnf)
    | (apply br_dec <;> intro hbr <;> (first | rw [decide_eq_true hbr] | rw [decide_eq_false hbr] | skip) <;> conv => whnf)
    | fail
  · refine Exists.intro (i + 1) (And.intro (And.intro ?_ ?_) ?_)
    · first | omega | skip
    · first | omega | skip
    conv => whnf
    repeat' first
      | apply True.intro
      | (apply ptr_and; (· kernel_rfl); conv => whnf)
      | omega
      | (apply Or.inr; rfl)
      | (apply Or.inl; rfl)
      | (apply or_row; (· rfl); (· rfl); rfl)
      | (apply or_row; (· rfl); (· rfl); apply ints_mp; subst_vars; rfl)
      | (apply And.intro <;> conv => whnf)
      | (subst_vars; rfl)
      | fail
  · have e : i = l.length := by omega
    subst e
    have hs := sP_sum h0
    refine WP.loopM [5, 41, 10, 11, 42] (fun i : Nat => [(5, .sl (some 0) none 1 false (ints .i32 (mp l.length fun j => if j < i then sP l j * 65536 / sumN (sP l) l.length else sP l j))), (41, .i .i64 i)]) (fun i => i ≤ l.length) (fun i => l.length - i) 0 ?_
    conv => whnf
    refine And.intro (And.intro ?_ ?_) (fun i hi => ?_)
    · first | omega | trivial | skip
    · conv => whnf
      repeat' first
        | apply True.intro
        | (apply ptr_and; (· kernel_rfl); conv => whnf)
        | omega
        | (apply Or.inr; rfl)
        | (apply or_row; (· rfl); (· rfl); rfl)
        | (apply And.intro <;> conv => whnf)
        | (apply Nat.le_of_ble_eq_true; rfl)
        | fail
    conv => whnf
    have hget : i < l.length → (mp l.length fun j => if j < i then sP l j * 65536 / sumN (sP l) l.length else sP l j).getD ((i : Int).toNat) 0 = sP l i := fun hi => by rw [Int.toNat_natCast, mp_get hi, if_neg (by omega)]
    have hsp := sP_in l i
    have hlen : (mp l.length fun j => if j < i then sP l j * 65536 / sumN (sP l) l.length else sP l j).length = l.length := mp_len _ _
    have hlen2 : (mp l.length (sP l)).length = l.length := mp_len _ _
    have hws := w_small h0 i
    repeat' first
      | apply WP.seq
      | (apply WP.region (E := eWeights) mixed tbl_ok; conv => whnf)
      | (apply WP.cond; conv => whnf)
      | (apply WP.skip; conv => whnf)
      | (apply WP.ret; conv => whnf)
      | (apply WP.exit; conv => whnf)
      | apply WP.block
      | (rw [hget (by omega)]; conv => whnf)
      | (apply ex_as64 (show sP l i * 2 ^ _ = sP l i * 65536 from rfl) ⟨by omega, by omega⟩; conv => whnf)
      | (apply reg_and; (· kernel_rfl); conv => whnf)
      | (apply ex_i64; (· omega); conv => whnf)
      | (apply ex_i32; (· omega); conv => whnf)
      | (apply ex_quo; (· omega); conv => whnf)
      | (apply ex_ints; (· omega); conv => whnf)
      | (apply ex_eq; conv => whnf)
      | (apply nd_ints; (· omega); conv => whnf)
      | (apply nodup_and; (· exact of_decide_eq_true (by kernel_rfl)); conv => whnf)
      | (apply And.intro; (· first | with_reducible rfl | exact trivial | exact Or.inl ⟨rfl, rfl⟩ | exact Or.inr rfl | decide | omega | (apply Nat.le_of_ble_eq_true; rfl) | (dsimp only; omega) | (simp only [ints_len, gl_len, mp_len, List.length_cons, List.length_nil, List.length_drop, List.length_take]; omega)); conv => whnf)
      | (apply br_dec <;> intro hbr <;> (first | rw [decide_eq_true hbr] | rw [decide_eq_false hbr] | skip) <;> conv => whnf)
      | apply True.intro
      | (apply And.intro <;> conv => whnf)
      | fail
    · refine Exists.intro (i + 1) (And.intro (And.intro ?_ ?_) ?_)
      · first | omega | skip
      · first | omega | skip
      conv => whnf
      repeat' first
        | apply True.intro
        | (apply ptr_and; (· kernel_rfl); conv => whnf)
        | omega
        | (apply Or.inr; rfl)
        | (apply And.intro <;> conv => whnf)
        | (apply Nat.le_of_ble_eq_true; rfl)
        | fail
      refine or_row rfl rfl ?_
      rw [Int.toNat_natCast]
      refine ints_put fun j hj => ?_
      by_cases h1 : j = i
      · subst h1; rw [if_pos (by omega), if_pos rfl]
      · rw [if_neg h1]
        by_cases h2 : j < i
        · rw [if_pos h2, if_pos (by omega)]
        · rw [if_neg h2, if_neg (by omega)]
    · have e : i = l.length := by omega
      subst e
      have e2 : (mp l.length fun j => if j < l.length then sP l j * 65536 / sumN (sP l) l.length else sP l j) = sW l := mp_congr fun j hj => by rw [if_pos hj]
      rw [e2]
      repeat' first
        | (apply or_row; (· rfl); (· rfl); rfl)
        | fail
end Go.Proofs.Ytjihjjbieeofdaa.T
namespace Go.Proofs.Ytjihjjbieeofdaa.T
set_option linter.unusedSimpArgs false
set_option linter.unusedVariables false
open Go
set_option linter.unusedVariables false
set_option maxHeartbeats 2000000
/-- Rows of m numbers. -/
abbrev RowsN (m : Nat) (l : List (List Int)) : Prop := ∀ r ∈ l, r.length = m ∧ I32s r
theorem RowsN.rows {m : Nat} {l : List (List Int)} (h : RowsN m l) : Rows l := fun r hr => (h r hr).2
theorem getD_mem {α : Type} {l : List α} {i : Nat} (h : i < l.length) (z : α) : l.getD i z ∈ l := by
  rw [List.getD_eq_getElem?_getD, List.getElem?_eq_getElem h]; exact List.getElem_mem h
def eMix : Env := ⟨tbl, [], [], [], [(0, [0, 1]), (1, [0, 1, 21]), (2, [4, 5]), (3, [0, 1, 24]), (4, [4, 5]), (5, [0, 1, 29]), (6, [4, 5]), (7, [0, 1, 6]), (8, [0, 1, 6, 34, 35, 36]), (9, [0, 1, 6, 34, 35, 36, 37]), (10, [0, 1, 6, 8, 34, 35, 36]), (11, [0, 1, 6, 34, 35, 36, 43]), (12, [4, 5]), (13, [0, 1, 6, 34, 35, 36]), (14, [0, 1, 6, 9]), (15, [0, 1, 9, 45, 46]), (16, [0, 1, 9, 45, 46, 47]), (17, [0, 1, 9, 10, 45, 46]), (18, [0, 1, 9, 10, 11, 45, 46]), (19, [0, 1, 9, 10, 11, 45, 46, 49, 50, 51]), (20, [0, 1, 9, 10, 11, 45, 46, 49, 50, 51, 52]), (21, [0, 1, 9, 10, 11, 12, 13, 45, 46, 49, 50, 51]), (22, [0, 1, 9, 10, 11, 45, 46, 49, 50, 51]), (23, [0, 1, 9, 10, 11, 45, 46, 49, 50, 51]), (24, [0, 1, 9, 45, 46]), (25, [0, 1, 9, 45, 46]), (26, [4, 5])]⟩
theorem mix_ok {nw nr : Option Bool} {w : List Int} {rows : List (List Int)} {m : Nat} (h0 : 0 < w.length) (hl : w.length ≤ 4096) (hr : w.length = rows.length) (hm : m ≤ 4096) (hw : I32s w) (hrows : RowsN m rows) : Impl Try.prog 109 [.sl none nw 1 false (ints .i32 w), .sl none nr 1 true (gl (rowA none) rows)] (.tup [rowA (some 0) (sMix w rows m), .i .i64 0]) := by
  refine impl_of (fn := Try.f109) tbl_ok (by kernel_rfl) (by kernel_rfl) rfl ⟨by simp [Try.f109], by decide⟩ rfl fun W0 => ?_
  repeat' first
    | apply WP.seq
    | (apply WP.region (E := eMix) mixed tbl_ok; conv => whnf)
    | (apply WP.cond; conv => whnf)
    | (apply WP.skip; conv => whnf)
    | apply WP.block
    | (apply reg_and; (· kernel_rfl); conv => whnf)
    | (apply ex_ilen; conv => whnf)
    | (apply ex_glen; conv => whnf)
    | (apply ex_rows; (· assumption); (· omega); intro r hr hq; obtain ⟨hq1, hq2⟩ := hq; conv => whnf)
    | (apply ex_eq; conv => whnf)
    | (apply gd_br)
    | (apply nd_gl; (· omega); conv => whnf)
    | (apply And.intro; (· first | with_reducible rfl | exact trivial | exact Or.inl ⟨rfl, rfl⟩ | exact Or.inr rfl | decide | omega | (apply Nat.le_of_ble_eq_true; rfl) | (dsimp only; omega) | (simp only [ints_len, gl_len, mp_len, List.length_cons, List.length_nil, List.length_drop, List.length_take]; omega)); conv => whnf)
    | apply br_not
    | (apply br_yes; (· omega); conv => whnf)
    | (apply br_no; (· omega); conv => whnf)
    | fail
  refine WP.loopM [36, 8, 37] (fun i : Nat => [(36, .i .i64 i)]) (fun i => i ≤ rows.length) (fun i => rows.length - i) 0 ?_
  conv => whnf
  refine And.intro (And.intro ?_ ?_) (fun i hi => ?_)
  · first | omega | trivial | skip
  · conv => whnf
    repeat' first
      | apply True.intro
      | (apply ptr_and; (· kernel_rfl); conv => whnf)
      | omega
      | (apply Or.inr; rfl)
      | (apply or_row; (· rfl); (· rfl); rfl)
      | (apply And.intro <;> conv => whnf)
      | fail
  conv => whnf
  repeat' first
    | apply WP.seq
    | (apply WP.region (E := eMix) mixed tbl_ok; conv => whnf)
    | (apply WP.cond; conv => whnf)
    | (apply WP.skip; conv => whnf)
    | (apply WP.exit; conv => whnf)
    | apply WP.block
    | (apply reg_and; (· kernel_rfl); conv => whnf)
    | (apply ex_ilen; conv => whnf)
    | (apply ex_i64; (· omega); conv => whnf)
    | (apply ex_rows; (· assumption); (· omega); intro r hr hq; obtain ⟨hq1, hq2⟩ := hq; conv => whnf)
    | (apply ex_eq; conv => whnf)
    | (apply nd_gl; (· omega); conv => whnf)
    | (apply And.intro; (· first | with_reducible rfl | exact trivial | exact Or.inl ⟨rfl, rfl⟩ | exact Or.inr rfl | decide | omega | (apply Nat.le_of_ble_eq_true; rfl) | (dsimp only; omega) | (simp only [ints_len, gl_len, mp_len, List.length_cons, List.length_nil, List.length_drop, List.length_take]; omega)); conv => whnf)
    | apply br_not
    | (apply br_yes; (· omega); conv => whnf)
    | (apply br_dec <;> intro hbr <;> (first | rw [decide_eq_true hbr] | rw [decide_eq_false hbr] | skip) <;> conv => whnf)
    | fail
  · refine Exists.intro (i + 1) (And.intro (And.intro ?_ ?_) ?_)
    · first | omega | skip
    · first | omega | skip
    conv => whnf
    repeat' first
      | apply True.intro
      | (apply ptr_and; (· kernel_rfl); conv => whnf)
      | omega
      | (apply Or.inr; rfl)
      | (apply or_row; (· rfl); (· rfl); rfl)
      | (apply And.intro <;> conv => whnf)
      | fail
  clear hi
  refine WP.loopM [9, 46, 10, 11, 47] (fun j : Nat => [(9, .sl (some 0) none 1 false (ints .i32 (mp j fun j => sDot w (sCol rows j)))), (46, .i .i64 j)]) (fun j => j ≤ m) (fun j => m - j) 0 ?_
  conv => whnf
  refine And.intro (And.intro ?_ ?_) (fun j hj => ?_)
  · first | omega | trivial | skip
  · conv => whnf
    repeat' first
      | apply True.intro
      | (apply ptr_and; (· kernel_rfl); conv => whnf)
      | omega
      | (apply Or.inr; rfl)
      | (apply Or.inl; rfl)
      | (apply or_row; (· rfl); (· rfl); rfl)
      | (apply Or.inr; apply And.intro; (· rfl); rfl)
      | (apply And.intro <;> conv => whnf)
      | fail
  conv => whnf
  repeat' first
    | apply WP.seq
    | (apply WP.region (E := eMix) mixed tbl_ok; conv => whnf)
    | (apply WP.cond; conv => whnf)
    | (apply WP.skip; conv => whnf)
    | (apply WP.ret; conv => whnf)
    | (apply WP.exit; conv => whnf)
    | apply WP.block
    | (apply reg_and; (· kernel_rfl); conv => whnf)
    | (apply ex_ilen; conv => whnf)
    | (apply ex_eq; conv => whnf)
    | (apply nodup_and; (· exact of_decide_eq_true (by kernel_rfl)); conv => whnf)
    | (apply And.intro; (· first | with_reducible rfl | exact trivial | exact Or.inl ⟨rfl, rfl⟩ | exact Or.inr rfl | decide | omega | (apply Nat.le_of_ble_eq_true; rfl) | (dsimp only; omega) | (simp only [ints_len, gl_len, mp_len, List.length_cons, List.length_nil, List.length_drop, List.length_take]; omega)); conv => whnf)
    | (apply br_dec <;> intro hbr <;> (first | rw [decide_eq_true hbr] | rw [decide_eq_false hbr] | skip) <;> conv => whnf)
    | apply True.intro
    | (apply And.intro <;> conv => whnf)
    | fail
  · refine WP.loopM [11, 51, 12, 13, 52] (fun i : Nat => [(11, .i .i64 (growN (fun i => w.getD i 0 * (sCol rows j).getD i 0) i)), (51, .i .i64 i)]) (fun i => i ≤ w.length) (fun i => w.length - i) 0 ?_
    conv => whnf
    refine And.intro (And.intro ?_ ?_) (fun i hi => ?_)
    · first | omega | trivial | skip
    · conv => whnf
      repeat' first
        | apply True.intro
        | (apply ptr_and; (· kernel_rfl); conv => whnf)
        | omega
        | (apply Or.inr; rfl)
        | (apply or_row; (· rfl); (· rfl); rfl)
        | (apply And.intro <;> conv => whnf)
        | rfl
        | fail
    conv => whnf
    have hg := growN_big (fun i => w.getD i 0 * (sCol rows j).getD i 0) i
    repeat' first
      | apply WP.seq
      | (apply WP.region (E := eMix) mixed tbl_ok; conv => whnf)
      | (apply WP.cond; conv => whnf)
      | (apply WP.skip; conv => whnf)
      | (apply WP.exit; conv => whnf)
      | apply WP.block
      | (apply reg_and; (· kernel_rfl); conv => whnf)
      | (apply ex_and; (· with_reducible exact grow_ok hg ⟨by omega, by omega⟩); conv => whnf)
      | (apply ex_and; (· with_reducible exact round_ok _ hg); conv => whnf)
      | (apply ex_and; (· with_reducible exact sat_ok _); conv => whnf)
      | (apply ex_i64; (· omega); conv => whnf)
      | (apply ex_mul; (· omega); (· omega); (· omega); (· omega); intro m hm hm1 hm2; conv => whnf)
      | (apply ex_num; (· assumption); (· omega); intro x hx hx1 hx2; conv => whnf)
      | (apply ex_rows; (· assumption); (· omega); intro r hr hq; obtain ⟨hq1, hq2⟩ := hq; conv => whnf)
      | (apply ex_eq; conv => whnf)
      | (apply nd_ints; (· omega); conv => whnf)
      | (apply nd_gl; (· omega); conv => whnf)
      | (apply And.intro; (· first | with_reducible rfl | exact trivial | exact Or.inl ⟨rfl, rfl⟩ | exact Or.inr rfl | decide | omega | (apply Nat.le_of_ble_eq_true; rfl) | (dsimp only; omega) | (simp only [ints_len, gl_len, mp_len, List.length_cons, List.length_nil, List.length_drop, List.length_take]; omega)); conv => whnf)
      | (apply br_dec <;> intro hbr <;> (first | rw [decide_eq_true hbr] | rw [decide_eq_false hbr] | skip) <;> conv => whnf)
      | fail
    · refine Exists.intro (i + 1) (And.intro (And.intro ?_ ?_) ?_)
      · first | omega | skip
      · first | omega | skip
      conv => whnf
      repeat' first
        | apply True.intro
        | (apply ptr_and; (· kernel_rfl); conv => whnf)
        | omega
        | (apply Or.inr; rfl)
        | (apply or_row; (· rfl); (· rfl); rfl)
        | (apply And.intro <;> conv => whnf)
        | fail
      refine congrArg (sGrow _) ?_
      have e : (sCol rows j).getD i 0 = (rows.getD i []).getD j 0 := mp_get (by omega) _
      dsimp only
      rw [e]
      subst_vars
      rfl
    · have e : i = w.length := by omega
      subst e
      refine Exists.intro (j + 1) (And.intro (And.intro ?_ ?_) ?_)
      · first | omega | skip
      · first | omega | skip
      conv => whnf
      repeat' first
        | apply True.intro
        | (apply ptr_and; (· kernel_rfl); conv => whnf)
        | omega
        | (apply Or.inr; rfl)
        | (apply Or.inl; rfl)
        | (apply or_row; (· rfl); (· rfl); rfl)
        | (apply or_row; (· rfl); (· rfl); apply ints_mp; subst_vars; rfl)
        | (apply And.intro <;> conv => whnf)
        | fail
  · have e : j = m := by omega
    subst e
    repeat' first
      | (apply or_row; (· rfl); (· rfl); rfl)
      | fail
def eHFit : Env := ⟨tbl, [], [], [], [(0, [0, 1, 2, 3]), (1, [0, 1, 2, 3, 16]), (2, [8]), (3, [0, 1, 2, 3, 24]), (4, [8]), (5, [0, 1, 2, 3, 32]), (6, [8]), (7, [0, 1, 2, 44]), (8, [8]), (9, [0, 2, 45, 46, 47]), (10, [0, 2, 45, 46, 47, 48]), (11, [0, 2, 9, 10, 45, 46, 47]), (12, [0, 2, 45, 46, 47, 66]), (13, [8]), (14, [0, 2, 45, 46, 47]), (15, [8])]⟩
theorem hfit_ok {nq nk nv : Option Bool} {q : List Int} {ks vs : List (List Int)} {n : Nat} (hn : 1 ≤ n ∧ n ≤ 4) (hq : 0 < q.length ∧ q.length ≤ 32) (hk : 0 < ks.length ∧ ks.length ≤ 128) (hd : (q.length : Int) % n = 0) (hv : ks.length = vs.length) (hks : RowsN q.length ks) (hvs : RowsN q.length vs) : Impl Try.prog 105 [.sl none nq 1 false (ints .i32 q), .sl none nk 1 true (gl (rowA none) ks), .sl none nv 1 true (gl (rowA none) vs), .i .i64 n] (.i .i64 0) := by
  refine impl_of (fn := Try.f105) tbl_ok (by kernel_rfl) (by kernel_rfl) rfl ⟨by simp [Try.f105], by decide⟩ rfl fun W0 => ?_
  repeat' first
    | apply WP.seq
    | (apply WP.region (E := eHFit) mixed tbl_ok; conv => whnf)
    | (apply WP.cond; conv => whnf)
    | (apply WP.skip; conv => whnf)
    | apply WP.block
    | (apply reg_and; (· kernel_rfl); conv => whnf)
    | (apply ex_ilen; conv => whnf)
    | (apply ex_glen; conv => whnf)
    | (apply ex_rem; (· omega); conv => whnf)
    | (apply ex_eq; conv => whnf)
    | (apply gd_br)
    | (apply And.intro; (· first | with_reducible rfl | exact trivial | exact Or.inl ⟨rfl, rfl⟩ | exact Or.inr rfl | decide | omega | (apply Nat.le_of_ble_eq_true; rfl) | (dsimp only; omega) | (simp only [ints_len, gl_len, mp_len, List.length_cons, List.length_nil, List.length_drop, List.length_take]; omega)); conv => whnf)
    | apply br_not
    | (apply br_yes; (· omega); conv => whnf)
    | (apply br_no; (· omega); conv => whnf)
    | fail
  refine WP.loopM [47, 9, 10, 48] (fun i : Nat => [(47, .i .i64 i)]) (fun i => i ≤ ks.length) (fun i => ks.length - i) 0 ?_
  conv => whnf
  refine And.intro (And.intro ?_ ?_) (fun i hi => ?_)
  · first | omega | trivial | skip
  · conv => whnf
    repeat' first
      | apply True.intro
      | (apply ptr_and; (· kernel_rfl); conv => whnf)
      | omega
      | (apply Or.inr; rfl)
      | (apply or_row; (· rfl); (· rfl); rfl)
      | (apply And.intro <;> conv => whnf)
      | fail
  conv => whnf
  repeat' first
    | apply WP.seq
    | (apply WP.region (E := eHFit) mixed tbl_ok; conv => whnf)
    | (apply WP.cond; conv => whnf)
    | (apply WP.skip; conv => whnf)
    | (apply WP.ret; conv => whnf)
    | (apply WP.exit; conv => whnf)
    | apply WP.block
    | (apply reg_and; (· kernel_rfl); conv => whnf)
    | (apply ex_ilen; conv => whnf)
    | (apply ex_i64; (· omega); conv => whnf)
    | (apply ex_rows; (· assumption); (· omega); intro r hr hq; obtain ⟨hq1, hq2⟩ := hq; conv => whnf)
    | (apply ex_eq; conv => whnf)
    | (apply gd_br)
    | (apply nd_gl; (· omega); conv => whnf)
    | (apply And.intro; (· first | with_reducible rfl | exact trivial | exact Or.inl ⟨rfl, rfl⟩ | exact Or.inr rfl | decide | omega | (apply Nat.le_of_ble_eq_true; rfl) | (dsimp only; omega) | (simp only [ints_len, gl_len, mp_len, List.length_cons, List.length_nil, List.length_drop, List.length_take]; omega)); conv => whnf)
    | apply br_not
    | (apply br_yes; (· omega); conv => whnf)
    | (apply br_dec <;> intro hbr <;> (first | rw [decide_eq_true hbr] | rw [decide_eq_false hbr] | skip) <;> conv => whnf)
    | fail
  · refine Exists.intro (i + 1) (And.intro (And.intro ?_ ?_) ?_)
    · first | omega | skip
    · first | omega | skip
    conv => whnf
    repeat' first
      | apply True.intro
      | (apply ptr_and; (· kernel_rfl); conv => whnf)
      | omega
      | (apply Or.inr; rfl)
      | (apply or_row; (· rfl); (· rfl); rfl)
      | (apply And.intro <;> conv => whnf)
      | fail
def eParts : Env := ⟨tbl, [], [21, 22], [], [(0, [0, 1, 2]), (1, [0, 1, 2, 7]), (2, [1, 2, 7, 10, 11, 12]), (3, [1, 2, 7, 10, 11, 12, 13]), (4, [1, 2, 7, 9, 10, 11, 12]), (5, [1, 2, 7, 10, 11, 12]), (6, [1, 2, 7, 10, 11, 12]), (7, [6])]⟩
theorem parts_ok {nr : Option Bool} {rows : List (List Int)} {m a s : Nat} (hl : rows.length ≤ 128) (hm : m ≤ 4096) (ha : a + s ≤ m) (hr : RowsN m rows) : Impl Try.prog 107 [.sl none nr 1 true (gl (rowA none) rows), .i .i64 a, .i .i64 ((a : Int) + s)] (.sl (some 0) none 1 true (gl (rowA none) (mp rows.length fun i => sPart a s (rows.getD i [])))) := by
  refine impl_of (fn := Try.f107) tbl_ok (by kernel_rfl) (by kernel_rfl) rfl ⟨by simp [Try.f107], by decide⟩ rfl fun W0 => ?_
  repeat' first
    | apply WP.seq
    | (apply WP.region (E := eParts) mixed tbl_ok; conv => whnf)
    | apply WP.block
    | (apply reg_and; (· kernel_rfl); conv => whnf)
    | (apply ex_glen; conv => whnf)
    | fail
  refine WP.loopM [7, 12, 9, 13] (fun i : Nat => [(7, .sl (some 0) none 1 true (gl (rowA none) (mp i fun i => sPart a s (rows.getD i [])))), (12, .i .i64 i)]) (fun i => i ≤ rows.length) (fun i => rows.length - i) 0 ?_
  conv => whnf
  refine And.intro (And.intro ?_ ?_) (fun i hi => ?_)
  · first | omega | trivial | skip
  · conv => whnf
    repeat' first
      | apply True.intro
      | (apply ptr_and; (· kernel_rfl); conv => whnf)
      | omega
      | (apply Or.inr; rfl)
      | (apply Or.inl; rfl)
      | (apply or_row; (· rfl); (· rfl); rfl)
      | (apply Or.inr; apply And.intro; (· rfl); rfl)
      | (apply And.intro <;> conv => whnf)
      | fail
  conv => whnf
  repeat' first
    | apply WP.seq
    | (apply WP.region (E := eParts) mixed tbl_ok; conv => whnf)
    | (apply WP.cond; conv => whnf)
    | (apply WP.skip; conv => whnf)
    | (apply WP.ret; conv => whnf)
    | (apply WP.exit; conv => whnf)
    | apply WP.block
    | (apply reg_and; (· kernel_rfl); conv => whnf)
    | (apply ex_i64; (· omega); conv => whnf)
    | (apply ex_rows; (· assumption); (· omega); intro r hr hq; obtain ⟨hq1, hq2⟩ := hq; conv => whnf)
    | (apply ex_eq; conv => whnf)
    | (apply nd_gl; (· omega); conv => whnf)
    | (apply And.intro; (· first | with_reducible rfl | exact trivial | exact Or.inl ⟨rfl, rfl⟩ | exact Or.inr rfl | decide | omega | (apply Nat.le_of_ble_eq_true; rfl) | (dsimp only; omega) | (simp only [ints_len, gl_len, mp_len, List.length_cons, List.length_nil, List.length_drop, List.length_take]; omega)); conv => whnf)
    | (apply br_dec <;> intro hbr <;> (first | rw [decide_eq_true hbr] | rw [decide_eq_false hbr] | skip) <;> conv => whnf)
    | rw [ints_cut]
    | fail
  · refine Exists.intro (i + 1) (And.intro (And.intro ?_ ?_) ?_)
    · first | omega | skip
    · first | omega | skip
    conv => whnf
    repeat' first
      | apply True.intro
      | (apply ptr_and; (· kernel_rfl); conv => whnf)
      | omega
      | (apply Or.inr; rfl)
      | (apply Or.inl; rfl)
      | (apply or_row; (· rfl); (· rfl); rfl)
      | (apply or_row; (· rfl); (· rfl); apply gl_mp; subst_vars; rfl)
      | (apply And.intro <;> conv => whnf)
      | fail
  · have e : i = rows.length := by omega
    subst e
    repeat' first
      | (apply or_row; (· rfl); (· rfl); rfl)
      | fail
theorem mp_rowsN {n m : Nat} {F : Nat → List Int} (h : ∀ j, j < n → (F j).length = m ∧ I32s (F j)) : RowsN m (mp n F) := fun r hr => by
  obtain ⟨j, hj, rfl⟩ := mem_mp hr
  exact h j hj
theorem part_rows {rows : List (List Int)} {m a s : Nat} (ha : a + s ≤ m) (hr : RowsN m rows) : RowsN s (mp rows.length fun i => sPart a s (rows.getD i [])) := mp_rowsN fun j hj => by
  obtain ⟨h1, h2⟩ := hr _ (getD_mem hj [])
  exact ⟨sPart_len (by omega), sPart_i32 h2⟩
def eScores : Env := ⟨tbl, [], [], [], [(0, [0, 1]), (1, [0, 1, 6]), (2, [0, 1, 6, 7]), (3, [0, 6, 7, 16, 17, 18]), (4, [0, 6, 7, 16, 17, 18, 19]), (5, [0, 6, 7, 9, 16, 17, 18]), (6, [0, 6, 7, 10, 11, 16, 17, 18]), (7, [0, 6, 7, 10, 11, 16, 17, 18, 29]), (8, [4, 5]), (9, [0, 6, 7, 16, 17, 18]), (10, [0, 6, 7, 16, 17, 18]), (11, [4, 5])]⟩
theorem scores_ok {nq nk : Option Bool} {q : List Int} {ks : List (List Int)} (hq : q.length ≤ 4096) (hk : ks.length ≤ 4096) (hw : I32s q) (hks : RowsN q.length ks) : Impl Try.prog 106 [.sl none nq 1 false (ints .i32 q), .sl none nk 1 true (gl (rowA none) ks)] (.tup [rowA (some 0) (mp ks.length fun i => sScore q (ks.getD i [])), .i .i64 0]) := by
  have hi32 := sInv_i32 (sSat_i32 ((q.length : Int) * 65536))
  refine impl_of (fn := Try.f106) tbl_ok (by kernel_rfl) (by kernel_rfl) rfl ⟨by simp [Try.f106], by decide⟩ rfl fun W0 => ?_
  repeat' first
    | apply WP.seq
    | (apply WP.region (E := eScores) mixed tbl_ok; conv => whnf)
    | apply WP.block
    | (apply reg_and; (· kernel_rfl); conv => whnf)
    | (apply ex_and; (· with_reducible exact of_ok ⟨by omega, by omega⟩); conv => whnf)
    | (apply ex_and; (· with_reducible exact inv_ok (sSat_i32 _)); conv => whnf)
    | (apply ex_ilen; conv => whnf)
    | (apply ex_glen; conv => whnf)
    | fail
  refine WP.loopM [7, 18, 9, 10, 11, 19, 22] (fun i : Nat => [(7, .sl (some 0) none 1 false (ints .i32 (mp i fun i => sScore q (ks.getD i [])))), (18, .i .i64 i)]) (fun i => i ≤ ks.length) (fun i => ks.length - i) 0 ?_
  conv => whnf
  refine And.intro (And.intro ?_ ?_) (fun i hi => ?_)
  · first | omega | trivial | skip
  · conv => whnf
    repeat' first
      | apply True.intro
      | (apply ptr_and; (· kernel_rfl); conv => whnf)
      | omega
      | (apply Or.inr; rfl)
      | (apply Or.inl; rfl)
      | (apply or_row; (· rfl); (· rfl); rfl)
      | (apply Or.inr; apply And.intro; (· rfl); rfl)
      | (apply And.intro <;> conv => whnf)
      | fail
  conv => whnf
  repeat' first
    | apply WP.seq
    | (apply WP.region (E := eScores) mixed tbl_ok; conv => whnf)
    | (apply WP.cond; conv => whnf)
    | (apply WP.skip; conv => whnf)
    | (apply WP.ret; conv => whnf)
    | (apply WP.exit; conv => whnf)
    | apply WP.block
    | (apply reg_and; (· kernel_rfl); conv => whnf)
    | (apply ex_and; (· with_reducible exact dot_ok (by omega) (by omega) hw (by assumption)); conv => whnf)
    | (apply ex_and; (· with_reducible exact mul_ok _ _ (sDot_i32 _ _) hi32); conv => whnf)
    | (apply ex_i64; (· omega); conv => whnf)
    | (apply ex_rows; (· assumption); (· omega); intro r hr hq; obtain ⟨hq1, hq2⟩ := hq; conv => whnf)
    | (apply ex_eq; conv => whnf)
    | (apply nd_gl; (· omega); conv => whnf)
    | (apply nodup_and; (· exact of_decide_eq_true (by kernel_rfl)); conv => whnf)
    | (apply And.intro; (· first | with_reducible rfl | exact trivial | exact Or.inl ⟨rfl, rfl⟩ | exact Or.inr rfl | decide | omega | (apply Nat.le_of_ble_eq_true; rfl) | (dsimp only; omega) | (simp only [ints_len, gl_len, mp_len, List.length_cons, List.length_nil, List.length_drop, List.length_take]; omega)); conv => whnf)
    | apply br_not
    | (apply br_t; conv => whnf)
    | (apply br_dec <;> intro hbr <;> (first | rw [decide_eq_true hbr] | rw [decide_eq_false hbr] | skip) <;> conv => whnf)
    | apply True.intro
    | (apply And.intro <;> conv => whnf)
    | fail
  · refine Exists.intro (i + 1) (And.intro (And.intro ?_ ?_) ?_)
    · first | omega | skip
    · first | omega | skip
    conv => whnf
    repeat' first
      | apply True.intro
      | (apply ptr_and; (· kernel_rfl); conv => whnf)
      | omega
      | (apply Or.inr; rfl)
      | (apply Or.inl; rfl)
      | (apply or_row; (· rfl); (· rfl); rfl)
      | (apply or_row; (· rfl); (· rfl); apply ints_mp; subst_vars; rfl)
      | (apply And.intro <;> conv => whnf)
      | fail
  · have e : i = ks.length := by omega
    subst e
    repeat' first
      | (apply or_row; (· rfl); (· rfl); rfl)
      | fail
/-! heads -/
theorem mp_add {α : Type} (n s : Nat) (F : Nat → α) : mp n F ++ mp s (fun i => F (n + i)) = mp (n + s) F := by
  unfold mp
  rw [List.range_add, List.map_append, List.map_map]; rfl
theorem getD_part {rows : List (List Int)} {a s i j : Nat} (hi : i < rows.length) (hj : j < s) : ((mp rows.length fun i => sPart a s (rows.getD i [])).getD i []).getD j 0 = (rows.getD i []).getD (a + j) 0 := by
  rw [mp_get hi, sPart_get hj]
theorem mix_part {q : List Int} {ks vs : List (List Int)} {h s : Nat} (hs : 0 < s) : sMix (sHw q ks (h * s) s) (mp vs.length fun i => sPart (h * s) s (vs.getD i [])) s = mp s fun i => sAtt q ks vs s (h * s + i) := by
  unfold sMix
  refine mp_congr fun i hi => ?_
  unfold sAtt
  have e1 : (h * s + i) % s = i := by rw [Nat.add_comm, Nat.add_mul_mod_self_right]; exact Nat.mod_eq_of_lt hi
  have e2 : h * s + i - i = h * s := by omega
  rw [e1, e2]
  congr 1
  unfold sCol
  rw [mp_len]
  exact mp_congr fun k hk => getD_part hk hi
theorem score_part (q : List Int) (ks : List (List Int)) (a s : Nat) : (mp (mp ks.length fun i => sPart a s (ks.getD i [])).length fun i => sScore (sPart a s q) ((mp ks.length fun i => sPart a s (ks.getD i [])).getD i [])) = mp ks.length fun i => sScore (sPart a s q) (sPart a s (ks.getD i [])) := by
  rw [mp_len]
  exact mp_congr fun k hk => by rw [mp_get hk]
def eAttend : Env := ⟨tbl, [50], [], [], [(0, [0, 1, 2, 3]), (1, [0, 1, 2, 3, 10]), (2, [0, 1, 2, 3, 10, 24]), (3, [8, 9]), (4, [0, 1, 2, 11]), (5, [0, 1, 2, 11, 12]), (6, [0, 1, 2, 11, 12, 13]), (7, [0, 1, 2, 11, 12, 13, 33]), (8, [0, 1, 2, 11, 12, 13]), (9, [0, 1, 2, 11, 12, 13, 14, 15]), (10, [0, 1, 2, 11, 12, 13, 14, 15, 54]), (11, [8, 9]), (12, [0, 1, 2, 11, 12, 13, 15, 16]), (13, [0, 1, 2, 11, 12, 13, 15, 16, 62]), (14, [8, 9]), (15, [0, 1, 2, 11, 12, 13, 15, 17]), (16, [0, 1, 2, 11, 12, 13, 15, 17, 76]), (17, [8, 9]), (18, [0, 1, 2, 11, 12, 13]), (19, [8, 9])]⟩
theorem attend_ok {nq nk nv : Option Bool} {q : List Int} {ks vs : List (List Int)} {n s : Nat} (hn : 1 ≤ n ∧ n ≤ 4) (hq : 0 < q.length ∧ q.length ≤ 32) (hk : 0 < ks.length ∧ ks.length ≤ 128) (hns : n * s = q.length) (hv : ks.length = vs.length) (hw : I32s q) (hks : RowsN q.length ks) (hvs : RowsN q.length vs) : Impl Try.prog 90 [.sl none nq 1 false (ints .i32 q), .sl none nk 1 true (gl (rowA none) ks), .sl none nv 1 true (gl (rowA none) vs), .i .i64 n] (.tup [rowA (some 0) (sAttend q ks vs s), .i .i64 0]) := by
  have hs0 : 0 < s := Nat.pos_of_ne_zero fun e => by rw [e, Nat.mul_zero] at hns; omega
  have hsq : s ≤ q.length := by rw [← hns]; exact Nat.le_mul_of_pos_left _ (by omega)
  have hqn : (q.length : Int) = n * s := by rw [← hns]; simp
  have hdiv : ((q.length : Int)).tdiv n = s := by
    rw [hqn, Int.tdiv_eq_ediv_of_nonneg (Int.mul_nonneg (by omega) (by omega))]
    exact Int.mul_ediv_cancel_left _ (by omega)
  have hmod : (q.length : Int) % n = 0 := by rw [hqn]; exact Int.mul_emod_right _ _
  refine impl_of (fn := Try.f90) tbl_ok (by kernel_rfl) (by kernel_rfl) rfl ⟨by simp [Try.f90], by decide⟩ rfl fun W0 => ?_
  repeat' first
    | apply WP.seq
    | (apply WP.region (E := eAttend) mixed tbl_ok; conv => whnf)
    | (apply WP.cond; conv => whnf)
    | (apply WP.skip; conv => whnf)
    | apply WP.block
    | (apply ex_as64 hdiv ⟨by omega, by omega⟩; conv => whnf)
    | (apply reg_and; (· kernel_rfl); conv => whnf)
    | (apply ex_and; (· with_reducible exact hfit_ok hn hq hk hmod hv hks hvs); conv => whnf)
    | (apply ex_ilen; conv => whnf)
    | (apply ex_eq; conv => whnf)
    | (apply And.intro; (· first | with_reducible rfl | exact trivial | exact Or.inl ⟨rfl, rfl⟩ | exact Or.inr rfl | decide | omega | (apply Nat.le_of_ble_eq_true; rfl) | (dsimp only; omega) | (simp only [ints_len, gl_len, mp_len, List.length_cons, List.length_nil, List.length_drop, List.length_take]; omega)); conv => whnf)
    | apply br_not
    | (apply br_t; conv => whnf)
    | (rw [fz_rows]; conv => whnf)
    | fail
  refine WP.loopM [12, 13, 14, 15, 16, 17, 37, 56, 64] (fun h : Nat => [(12, .sl (some 0) none 1 false (ints .i32 (mp (h * s) (sAtt q ks vs s)))), (13, .i .i64 ((h * s : Nat) : Int))]) (fun h => h ≤ n) (fun h => n - h) 0 ?_
  conv => whnf
  refine And.intro (And.intro ?_ ?_) (fun h hh => ?_)
  · omega
  · conv => whnf
    repeat' first
      | apply True.intro
      | (apply ptr_and; (· kernel_rfl); conv => whnf)
      | omega
      | (apply Or.inr; rfl)
      | (apply Or.inl; rfl)
      | (apply or_row; (· rfl); (· rfl); rfl)
      | (apply And.intro <;> conv => whnf)
      | (rw [Nat.zero_mul]; apply Or.inr; apply And.intro; (· rfl); rfl)
      | fail
  conv => whnf
  have hlt : h * s < q.length → h < n := fun hl => by rw [← hns] at hl; exact Nat.lt_of_mul_lt_mul_right hl
  have hup : h < n → (h + 1) * s ≤ q.length := fun hl => by rw [← hns]; exact Nat.mul_le_mul_right _ hl
  have hsm : (h + 1) * s = h * s + s := by rw [Nat.add_mul, Nat.one_mul]
  have hcut : ((q.take (((h * s : Nat) : Int) + (s : Int)).toNat).drop ((h * s : Nat) : Int).toNat) = sPart (h * s) s q := by
    rw [Int.toNat_natCast, show (((h * s : Nat) : Int) + (s : Int)).toNat = h * s + s by omega]; rfl
  have hsw := sPart_i32 (a := h * s) (s := s) hw
  have hkp : h * s + s ≤ q.length → RowsN s (mp ks.length fun i => sPart (h * s) s (ks.getD i [])) := fun hl => part_rows hl hks
  have hvp : h * s + s ≤ q.length → RowsN s (mp vs.length fun i => sPart (h * s) s (vs.getD i [])) := fun hl => part_rows hl hvs
  have hpl : h * s + s ≤ q.length → (sPart (h * s) s q).length = s := fun hl => sPart_len hl
  have hsc : h * s + s ≤ q.length → ∀ {n1 n2 : Option Bool}, Impl Try.prog 106 [.sl none n1 1 false (ints .i32 (sPart (h * s) s q)), .sl none n2 1 true (gl (rowA none) (mp ks.length fun i => sPart (h * s) s (ks.getD i [])))] (.tup [rowA (some 0) (mp ks.length fun i => sScore (sPart (h * s) s q) (sPart (h * s) s (ks.getD i []))), .i .i64 0]) := fun hl n1 n2 => by
    have := scores_ok (nq := n1) (nk := n2) (q := sPart (h * s) s q) (ks := mp ks.length fun i => sPart (h * s) s (ks.getD i [])) (by rw [hpl hl]; omega) (by rw [mp_len]; omega) hsw (by rw [hpl hl]; exact hkp hl)
    rwa [score_part] at this
  have hwt : ∀ {n1 : Option Bool}, Impl Try.prog 108 [.sl none n1 1 false (ints .i32 (mp ks.length fun i => sScore (sPart (h * s) s q) (sPart (h * s) s (ks.getD i []))))] (.tup [rowA (some 0) (sHw q ks (h * s) s), .i .i64 0]) := fun {n1} => weights_ok (by rw [mp_len]; omega) (by rw [mp_len]; omega) (mp_i32s fun _ _ => sScore_i32 _ _)
  have hmx : h * s + s ≤ q.length → ∀ {n1 n2 : Option Bool}, Impl Try.prog 109 [.sl none n1 1 false (ints .i32 (sHw q ks (h * s) s)), .sl none n2 1 true (gl (rowA none) (mp vs.length fun i => sPart (h * s) s (vs.getD i [])))] (.tup [rowA (some 0) (mp s fun i => sAtt q ks vs s (h * s + i)), .i .i64 0]) := fun hl n1 n2 => by
    have := mix_ok (nw := n1) (nr := n2) (w := sHw q ks (h * s) s) (rows := mp vs.length fun i => sPart (h * s) s (vs.getD i [])) (m := s) (by rw [sHw_len]; omega) (by rw [sHw_len]; omega) (by rw [sHw_len, mp_len]; omega) (by omega) (sHw_i32 hk.1) (hvp hl)
    rwa [mix_part hs0] at this
  repeat' first
    | apply WP.seq
    | (apply WP.region (E := eAttend) mixed tbl_ok; conv => whnf)
    | (apply WP.cond; conv => whnf)
    | (apply WP.skip; conv => whnf)
    | (apply WP.ret; conv => whnf)
    | (apply WP.exit; conv => whnf)
    | apply WP.block
    | (rw [hcut]; conv => whnf)
    | (apply reg_and; (· kernel_rfl); conv => whnf)
    | (apply ex_and; (· with_reducible exact parts_ok (by omega) (m := q.length) (by omega) (by omega) hks); conv => whnf)
    | (apply ex_and; (· with_reducible exact parts_ok (by omega) (m := q.length) (by omega) (by omega) hvs); conv => whnf)
    | (apply ex_and; (· with_reducible exact hsc (by omega)); conv => whnf)
    | (apply ex_and; (· with_reducible exact hwt); conv => whnf)
    | (apply ex_and; (· with_reducible exact hmx (by omega)); conv => whnf)
    | (apply ex_ilen; conv => whnf)
    | (apply ex_i64; (· omega); conv => whnf)
    | (apply ex_eq; conv => whnf)
    | (apply nodup_and; (· exact of_decide_eq_true (by kernel_rfl)); conv => whnf)
    | (apply And.intro; (· first | with_reducible rfl | exact trivial | exact Or.inl ⟨rfl, rfl⟩ | exact Or.inr rfl | decide | omega | (apply Nat.le_of_ble_eq_true; rfl) | (dsimp only; omega) | (simp only [ints_len, gl_len, mp_len, List.length_cons, List.length_nil, List.length_drop, List.length_take]; omega)); conv => whnf)
    | apply br_not
    | (apply br_t; conv => whnf)
    | (apply br_dec <;> intro hbr <;> (first | rw [decide_eq_true hbr] | rw [decide_eq_false hbr] | skip) <;> conv => whnf)
    | apply True.intro
    | rw [ints_cut]
    | (rw [fz_rows]; conv => whnf)
    | (apply And.intro <;> conv => whnf)
    | fail
  · refine Exists.intro (h + 1) (And.intro (And.intro ?_ ?_) ?_)
    · first | omega | skip
    · first | omega | skip
    conv => whnf
    repeat' first
      | apply True.intro
      | (apply ptr_and; (· kernel_rfl); conv => whnf)
      | omega
      | (apply Or.inr; rfl)
      | (apply Or.inl; rfl)
      | (apply or_row; (· rfl); (· rfl); rfl)
      | (apply And.intro <;> conv => whnf)
      | fail
    · rw [hsm, ints_app, mp_add]
      repeat' first
        | (apply or_row; (· rfl); (· rfl); rfl)
        | fail
  · have e : h = n := by
      by_cases e : h < n
      · have := hup e; omega
      · omega
    subst e
    rw [hns]
    repeat' first
      | (apply or_row; (· rfl); (· rfl); rfl)
      | fail
end Go.Proofs.Ytjihjjbieeofdaa.T
namespace Go.Proofs.Ytjihjjbieeofdaa.T
set_option linter.unusedSimpArgs false
set_option linter.unusedVariables false
open Go
set_option linter.unusedVariables false
set_option maxHeartbeats 4000000
set_option maxRecDepth 100000
structure Cfg where
  vocab : Int
  dim : Int
  heads : Int
  hidden : Int
  layers : Int
abbrev cfgA (c : Cfg) : AV := .agg [.i .i64 c.vocab, .i .i64 c.dim, .i .i64 c.heads, .i .i64 c.hidden, .i .i64 c.layers]
def shp (c : Cfg) : Int := if c.vocab < 2 ∨ c.dim < 1 ∨ c.heads < 1 ∨ c.hidden < 1 ∨ c.layers < 1 then 1 else if c.vocab > 64 ∨ c.dim > 32 ∨ c.heads > 4 ∨ c.hidden > 64 ∨ c.layers > 4 then 2 else if c.dim % c.heads ≠ 0 then 4 else 0
theorem ex_at {l : List AV} {n : Nat} {v : AV} {p : AV → Prop} (h : l[n]? = some v) (hp : p v) : ∃ v, l[n]? = some v ∧ p v := ⟨v, h, hp⟩
theorem shp_eq (c1 c2 c3 c4 c5 : Int) : shp ⟨c1, c2, c3, c4, c5⟩ = if c1 < 2 ∨ c2 < 1 ∨ c3 < 1 ∨ c4 < 1 ∨ c5 < 1 then 1 else if c1 > 64 ∨ c2 > 32 ∨ c3 > 4 ∨ c4 > 64 ∨ c5 > 4 then 2 else if c2 % c3 ≠ 0 then 4 else 0 := rfl
theorem cfgA_eq (c1 c2 c3 c4 c5 : Int) : cfgA ⟨c1, c2, c3, c4, c5⟩ = .agg [.i .i64 c1, .i .i64 c2, .i .i64 c3, .i .i64 c4, .i .i64 c5] := rfl
def eShape : Env := ⟨tbl, [], [], [], [(0, [1, 2999, 2000, 2001, 2002, 2003, 2004]), (1, [1, 25, 2999, 2000, 2001, 2002, 2003, 2004]), (2, [2]), (3, [1, 48, 2999, 2000, 2001, 2002, 2003, 2004]), (4, [2]), (5, [54]), (6, [2]), (7, [2])]⟩
theorem shape_ok (c : Cfg) : Impl Try.prog 61 [cfgA c] (.i .i64 (shp c)) := by
  obtain ⟨c1, c2, c3, c4, c5⟩ := c
  rw [shp_eq, cfgA_eq]
  refine impl_of (fn := Try.f61) tbl_ok (by kernel_rfl) (by kernel_rfl) rfl ⟨by simp [Try.f61], by decide⟩ rfl fun W0 => ?_
  repeat' first
    | apply WP.seq
    | (apply WP.region (E := eShape) mixed tbl_ok; conv => whnf)
    | (apply WP.cond; conv => whnf)
    | (apply WP.skip; conv => whnf)
    | (apply WP.ret; conv => whnf)
    | (apply reg_and; (· kernel_rfl); conv => whnf)
    | (apply ex_rem; (· omega); conv => whnf)
    | (apply ex_eq; conv => whnf)
    | ((with_reducible apply gd_t); conv => whnf)
    | ((with_reducible apply gd_f); conv => whnf)
    | (apply gd_br)
    | (apply And.intro; (· first | with_reducible rfl | exact trivial | exact Or.inl ⟨rfl, rfl⟩ | exact Or.inr rfl | decide | omega | (apply Nat.le_of_ble_eq_true; rfl) | (dsimp only; omega) | (simp only [ints_len, gl_len, mp_len, List.length_cons, List.length_nil, List.length_drop, List.length_take]; omega)); conv => whnf)
    | apply br_not
    | (apply br_t; conv => whnf)
    | (apply br_dec <;> intro hbr <;> (first | rw [decide_eq_true hbr] | rw [decide_eq_false hbr] | skip) <;> conv => whnf)
    | omega
    | fail
  all_goals repeat' split
  all_goals first | rfl | omega
/-! tokens -/
def prm (vocab : Int) (t : List Int) : Int := if t.length = 0 then 8 else if t.length > 128 then 2 else if ∀ x ∈ t, 0 ≤ x ∧ x < vocab then 0 else 7
theorem prm_bad {vocab : Int} {t : List Int} {i : Nat} (h0 : t.length ≠ 0) (h1 : ¬ t.length > 128) (hi : i < t.length) (h : ¬ (0 ≤ t.getD i 0 ∧ t.getD i 0 < vocab)) : prm vocab t = 7 := by
  unfold prm
  rw [if_neg h0, if_neg h1, if_neg (fun ha => h (ha _ (getD_mem hi 0)))]
theorem prm_good {vocab : Int} {t : List Int} (h0 : t.length ≠ 0) (h1 : ¬ t.length > 128) (h : ∀ j, j < t.length → 0 ≤ t.getD j 0 ∧ t.getD j 0 < vocab) : prm vocab t = 0 := by
  unfold prm
  rw [if_neg h0, if_neg h1, if_pos]
  intro x hx
  obtain ⟨j, hj, rfl⟩ := List.mem_iff_getElem.1 hx
  have := h j hj
  rwa [List.getD_eq_getElem?_getD, List.getElem?_eq_getElem hj] at this
def ePrompt : Env := ⟨tbl, [], [], [], [(0, [1, 2, 3999, 3000, 3001, 3002, 3003, 3004]), (1, [1, 2, 9, 3999, 3000, 3001, 3002, 3003, 3004]), (2, [4]), (3, [1, 2, 12, 3999, 3000, 3001, 3002, 3003, 3004]), (4, [4]), (5, [2, 13, 14, 15, 3999, 3000, 3001, 3002, 3003, 3004]), (6, [2, 13, 14, 15, 16, 3999, 3000, 3001, 3002, 3003, 3004]), (7, [2, 6, 13, 14, 15, 3999, 3000, 3001, 3002, 3003, 3004]), (8, [2, 13, 14, 15, 26, 3999, 3000, 3001, 3002, 3003, 3004]), (9, [4]), (10, [2, 13, 14, 15, 3999, 3000, 3001, 3002, 3003, 3004]), (11, [4])]⟩
theorem prompt_ok {nt : Option Bool} (c : Cfg) {t : List Int} (hl : t.length ≤ 1000000) : Impl Try.prog 53 [cfgA c, .sl none nt 1 false (ints .i64 t)] (.i .i64 (prm c.vocab t)) := by
  obtain ⟨c1, c2, c3, c4, c5⟩ := c
  rw [cfgA_eq]
  show Impl Try.prog 53 _ (.i .i64 (prm c1 t))
  refine impl_of (fn := Try.f53) tbl_ok (by kernel_rfl) (by kernel_rfl) rfl ⟨by simp [Try.f53], by decide⟩ rfl fun W0 => ?_
  repeat' first
    | apply WP.seq
    | (apply WP.region (E := ePrompt) mixed tbl_ok; conv => whnf)
    | (apply WP.cond; conv => whnf)
    | (apply WP.skip; conv => whnf)
    | (apply WP.ret; conv => whnf)
    | apply WP.block
    | (apply reg_and; (· kernel_rfl); conv => whnf)
    | (apply ex_ilen; conv => whnf)
    | (apply ex_eq; conv => whnf)
    | (apply And.intro; (· first | with_reducible rfl | exact trivial | exact Or.inl ⟨rfl, rfl⟩ | exact Or.inr rfl | decide | omega | (apply Nat.le_of_ble_eq_true; rfl) | (dsimp only; omega) | (simp only [ints_len, gl_len, mp_len, List.length_cons, List.length_nil, List.length_drop, List.length_take]; omega)); conv => whnf)
    | (apply br_dec <;> intro hbr <;> (first | rw [decide_eq_true hbr] | rw [decide_eq_false hbr] | skip) <;> conv => whnf)
    | fail
  · unfold prm; rw [if_pos (by omega)]
  · unfold prm; rw [if_neg (by omega), if_pos (by omega)]
  refine WP.loopM [15, 6, 16] (fun i : Nat => [(15, .i .i64 i)]) (fun i => i ≤ t.length ∧ ∀ j, j < i → 0 ≤ t.getD j 0 ∧ t.getD j 0 < c1) (fun i => t.length - i) 0 ?_
  conv => whnf
  refine And.intro (And.intro ?_ ?_) (fun i hi => ?_)
  · exact ⟨by omega, fun j hj => absurd hj (by omega)⟩
  · conv => whnf
    repeat' first
      | apply True.intro
      | (apply ptr_and; (· kernel_rfl); conv => whnf)
      | omega
      | (apply Or.inr; rfl)
      | (apply or_row; (· rfl); (· rfl); rfl)
      | (apply And.intro <;> conv => whnf)
      | fail
  conv => whnf
  obtain ⟨hi1, hi2⟩ := hi
  repeat' first
    | apply WP.seq
    | (apply WP.region (E := ePrompt) mixed tbl_ok; conv => whnf)
    | (apply WP.cond; conv => whnf)
    | (apply WP.skip; conv => whnf)
    | (apply WP.ret; conv => whnf)
    | (apply WP.exit; conv => whnf)
    | apply WP.block
    | (apply reg_and; (· kernel_rfl); conv => whnf)
    | (apply ex_i64; (· omega); conv => whnf)
    | (apply ex_ints; (· omega); conv => whnf)
    | (apply ex_eq; conv => whnf)
    | ((with_reducible apply gd_t); conv => whnf)
    | ((with_reducible apply gd_f); conv => whnf)
    | (apply gd_br)
    | (apply nd_ints; (· omega); conv => whnf)
    | (apply And.intro; (· first | with_reducible rfl | exact trivial | exact Or.inl ⟨rfl, rfl⟩ | exact Or.inr rfl | decide | omega | (apply Nat.le_of_ble_eq_true; rfl) | (dsimp only; omega) | (simp only [ints_len, gl_len, mp_len, List.length_cons, List.length_nil, List.length_drop, List.length_take]; omega)); conv => whnf)
    | (apply br_t; conv => whnf)
    | (apply br_dec <;> intro hbr <;> (first | rw [decide_eq_true hbr] | rw [decide_eq_false hbr] | skip) <;> conv => whnf)
    | fail
  · exact (prm_bad (i := i) (by omega) (by omega) (by omega) (fun h => by rw [Int.toNat_natCast] at *; omega)).symm
  · exact (prm_bad (i := i) (by omega) (by omega) (by omega) (fun h => by rw [Int.toNat_natCast] at *; omega)).symm
  · refine Exists.intro (i + 1) (And.intro (And.intro ⟨by omega, fun j hj => ?_⟩ (by omega)) ?_)
    · by_cases e : j = i
      · subst e; rw [Int.toNat_natCast] at *; omega
      · exact hi2 j (by omega)
    · conv => whnf
      repeat' first
        | apply True.intro
        | (apply ptr_and; (· kernel_rfl); conv => whnf)
        | omega
        | (apply Or.inr; rfl)
        | (apply or_row; (· rfl); (· rfl); rfl)
        | (apply And.intro <;> conv => whnf)
        | fail
  · exact (prm_good (by omega) (by omega) (fun j hj => hi2 j (by omega))).symm
end Go.Proofs.Ytjihjjbieeofdaa.T
namespace Go.Proofs.Ytjihjjbieeofdaa.T
set_option linter.unusedSimpArgs false
set_option linter.unusedVariables false
open Go
set_option linter.unusedVariables false
set_option maxHeartbeats 2000000
set_option maxRecDepth 100000
structure MatD where
  r : Int
  c : Int
  d : List Int
structure Blk where
  first : List Int
  q : MatD
  k : MatD
  v : MatD
  o : MatD
  second : List Int
  up : MatD
  down : MatD
structure Wts where
  embed : MatD
  blocks : List Blk
  last : List Int
  out : MatD
abbrev blkA (o : Option Nat) (b : Blk) : AV := .agg [rowA o b.first, .i .i64 b.q.r, .i .i64 b.q.c, rowA o b.q.d, .i .i64 b.k.r, .i .i64 b.k.c, rowA o b.k.d, .i .i64 b.v.r, .i .i64 b.v.c, rowA o b.v.d, .i .i64 b.o.r, .i .i64 b.o.c, rowA o b.o.d, rowA o b.second, .i .i64 b.up.r, .i .i64 b.up.c, rowA o b.up.d, .i .i64 b.down.r, .i .i64 b.down.c, rowA o b.down.d]
abbrev wtsA (o ob : Option Nat) (w : Wts) : AV := .agg [.i .i64 w.embed.r, .i .i64 w.embed.c, rowA o w.embed.d, .sl o none 20 true (gl (blkA ob) w.blocks), rowA o w.last, .i .i64 w.out.r, .i .i64 w.out.c, rowA o w.out.d]
def matOk (r c : Int) (d : List Int) (rows cols : Int) : Prop := chk r c d = 0 ∧ r = rows ∧ c = cols
instance (r c : Int) (d : List Int) (rows cols : Int) : Decidable (matOk r c d rows cols) := by unfold matOk; infer_instance
def eSide : Env := ⟨tbl, [], [], [], [(0, [1, 2, 3, 4999, 4000, 4001, 4002]), (1, [6])]⟩
theorem side_ok {nl : Option Bool} {r c : Int} {d : List Int} {rows cols : Int} : Impl Try.prog 80 [matA none nl r c d, .i .i64 rows, .i .i64 cols] (.b (decide (matOk r c d rows cols))) := by
  refine impl_of (fn := Try.f80) tbl_ok (by kernel_rfl) (by kernel_rfl) rfl ⟨by simp [Try.f80], by decide⟩ rfl fun W0 => ?_
  repeat' first
    | apply WP.seq
    | (apply WP.region (E := eSide) mixed tbl_ok; conv => whnf)
    | (apply WP.ret; conv => whnf)
    | (apply reg_and; (· kernel_rfl); conv => whnf)
    | (apply ex_and; (· with_reducible exact check_ok); conv => whnf)
    | (apply ex_eq; conv => whnf)
    | ((with_reducible apply gd_f); conv => whnf)
    | (apply gd_br)
    | (apply And.intro; (· first | with_reducible rfl | exact trivial | exact Or.inl ⟨rfl, rfl⟩ | exact Or.inr rfl | decide | omega | (apply Nat.le_of_ble_eq_true; rfl) | (dsimp only; omega) | (simp only [ints_len, gl_len, mp_len, List.length_cons, List.length_nil, List.length_drop, List.length_take]; omega)); conv => whnf)
    | (apply br_yes; (· omega); conv => whnf)
    | (apply br_no; (· omega); conv => whnf)
    | (apply br_dec <;> intro hbr <;> (first | rw [decide_eq_true hbr] | rw [decide_eq_false hbr] | skip) <;> conv => whnf)
    | fail
  all_goals unfold matOk
  all_goals try simp_all
  all_goals rfl
def blkOk (c : Cfg) (b : Blk) : Prop := matOk b.q.r b.q.c b.q.d c.dim c.dim ∧ matOk b.k.r b.k.c b.k.d c.dim c.dim ∧ matOk b.v.r b.v.c b.v.d c.dim c.dim ∧ matOk b.o.r b.o.c b.o.d c.dim c.dim ∧ matOk b.up.r b.up.c b.up.d c.hidden c.dim ∧ matOk b.down.r b.down.c b.down.d c.dim c.hidden ∧ (b.first.length : Int) = c.dim ∧ (b.second.length : Int) = c.dim
instance (c : Cfg) (b : Blk) : Decidable (blkOk c b) := by unfold blkOk; infer_instance
def wtsOk (c : Cfg) (w : Wts) : Prop := matOk w.embed.r w.embed.c w.embed.d c.vocab c.dim ∧ matOk w.out.r w.out.c w.out.d c.vocab c.dim ∧ (w.last.length : Int) = c.dim ∧ (w.blocks.length : Int) = c.layers ∧ ∀ b ∈ w.blocks, blkOk c b
instance (c : Cfg) (w : Wts) : Decidable (wtsOk c w) := by unfold wtsOk; infer_instance
def chkW (c : Cfg) (w : Wts) : Int := if shp c ≠ 0 then shp c else if wtsOk c w then 0 else 4
theorem chk_shp {c : Cfg} {w : Wts} (h : ¬ shp c = 0) : shp c = chkW c w := by unfold chkW; rw [if_pos h]
theorem chk_bad {c : Cfg} {w : Wts} (h : shp c = 0) (hb : ¬ wtsOk c w) : 4 = chkW c w := by unfold chkW; rw [if_neg (fun e => e h), if_neg hb]
theorem chk_blk {c : Cfg} {w : Wts} (h : shp c = 0) {b : Blk} (hb : b ∈ w.blocks) (hk : ¬ blkOk c b) : 4 = chkW c w := chk_bad h fun hw => hk (hw.2.2.2.2 b hb)
theorem chk_good {c : Cfg} {w : Wts} (h : shp c = 0) (hb : wtsOk c w) : 0 = chkW c w := by unfold chkW; rw [if_neg (fun e => e h), if_pos hb]
theorem take_all_in {α : Type} {l : List α} {i : Nat} {Q : α → Prop} (h : ∀ b ∈ l.take i, Q b) {a : α} (ha : l[i]? = some a) (hQ : Q a) : ∀ b ∈ l.take (i + 1), Q b := by
  intro b hb
  rw [List.take_add_one, ha] at hb
  rcases List.mem_append.1 hb with hb | hb
  · exact h b hb
  · have : b = a := by simpa using hb
    rw [this]; exact hQ
def eCheck : Env := ⟨tbl, [], [], [], [(0, [2, 3, 3999, 3000, 3001, 3002, 3003, 3004, 4999, 4000, 4001, 4002, 4003, 4004, 4005, 4006, 4007]), (1, [2, 3, 5, 3999, 3000, 3001, 3002, 3003, 3004, 4999, 4000, 4001, 4002, 4003, 4004, 4005, 4006, 4007]), (2, [2, 3, 5, 12, 3999, 3000, 3001, 3002, 3003, 3004, 4999, 4000, 4001, 4002, 4003, 4004, 4005, 4006, 4007]), (3, [4]), (4, [2, 3, 6, 3999, 3000, 3001, 3002, 3003, 3004, 4999, 4000, 4001, 4002, 4003, 4004, 4005, 4006, 4007]), (5, [2, 3, 6, 46, 3999, 3000, 3001, 3002, 3003, 3004, 4999, 4000, 4001, 4002, 4003, 4004, 4005, 4006, 4007]), (6, [4]), (7, [2, 6, 48, 49, 50, 3999, 3000, 3001, 3002, 3003, 3004]), (8, [2, 6, 48, 49, 50, 51, 3999, 3000, 3001, 3002, 3003, 3004]), (9, [2, 6, 8, 48, 49, 50, 3999, 3000, 3001, 3002, 3003, 3004, 9999, 9000, 9001, 9002, 9003, 9004, 9005, 9006, 9007, 9008, 9009, 9010, 9011, 9012, 9013, 9014, 9015, 9016, 9017, 9018, 9019]), (10, [2, 6, 48, 49, 50, 115, 3999, 3000, 3001, 3002, 3003, 3004]), (11, [4]), (12, [2, 6, 48, 49, 50, 3999, 3000, 3001, 3002, 3003, 3004]), (13, [4])]⟩
theorem mcheck_ok (c : Cfg) (w : Wts) (hl : w.blocks.length ≤ 1000000) : Impl Try.prog 57 [cfgA c, wtsA none none w] (.i .i64 (chkW c w)) := by
  refine impl_of (fn := Try.f57) tbl_ok (by kernel_rfl) (by kernel_rfl) rfl ⟨by simp [Try.f57], by decide⟩ rfl fun W0 => ?_
  repeat' first
    | apply WP.seq
    | (apply WP.region (E := eCheck) mixed tbl_ok; conv => whnf)
    | (apply WP.cond; conv => whnf)
    | (apply WP.skip; conv => whnf)
    | (apply WP.ret; conv => whnf)
    | apply WP.block
    | (apply reg_and; (· kernel_rfl); conv => whnf)
    | (apply ex_and; (· with_reducible exact shape_ok c); conv => whnf)
    | (apply ex_and; (· with_reducible exact side_ok); conv => whnf)
    | (apply ex_ilen; conv => whnf)
    | (apply ex_glen; conv => whnf)
    | (apply ex_eq; conv => whnf)
    | ((with_reducible apply gd_t); conv => whnf)
    | ((with_reducible apply gd_nt); conv => whnf)
    | ((with_reducible apply gd_nf); conv => whnf)
    | (apply gd_br)
    | (apply And.intro; (· first | with_reducible rfl | exact trivial | exact Or.inl ⟨rfl, rfl⟩ | exact Or.inr rfl | decide | omega | (apply Nat.le_of_ble_eq_true; rfl) | (dsimp only; omega) | (simp only [ints_len, gl_len, mp_len, List.length_cons, List.length_nil, List.length_drop, List.length_take]; omega)); conv => whnf)
    | apply br_not
    | (apply br_t; conv => whnf)
    | (apply br_yes; (· omega); conv => whnf)
    | (apply br_no; (· omega); conv => whnf)
    | (apply br_dec <;> intro hbr <;> (first | rw [decide_eq_true hbr] | rw [decide_eq_false hbr] | skip) <;> conv => whnf)
    | fail
  · refine WP.loopM [50, 8, 51] (fun i : Nat => [(50, .i .i64 i)]) (fun i => i ≤ w.blocks.length ∧ ∀ b ∈ w.blocks.take i, blkOk c b) (fun i => w.blocks.length - i) 0 ?_
    conv => whnf
    refine And.intro (And.intro ?_ ?_) (fun i hi => ?_)
    · exact ⟨by omega, fun b hb => by simp at hb⟩
    · conv => whnf
      repeat' first
        | apply True.intro
        | (apply ptr_and; (· kernel_rfl); conv => whnf)
        | omega
        | (apply Or.inr; rfl)
        | (apply or_row; (· rfl); (· rfl); rfl)
        | (apply And.intro <;> conv => whnf)
        | fail
    conv => whnf
    obtain ⟨hi1, hi2⟩ := hi
    repeat' first
      | apply WP.seq
      | (apply WP.region (E := eCheck) mixed tbl_ok; conv => whnf)
      | (apply WP.cond; conv => whnf)
      | (apply WP.skip; conv => whnf)
      | (apply WP.ret; conv => whnf)
      | (apply WP.exit; conv => whnf)
      | apply WP.block
      | (apply reg_and; (· kernel_rfl); conv => whnf)
      | (apply ex_and; (· with_reducible exact side_ok); conv => whnf)
      | (apply ex_ilen; conv => whnf)
      | (apply ex_i64; (· omega); conv => whnf)
      | (apply ex_gl; (· omega); intro a ha ha2; conv => whnf)
      | (apply ex_eq; conv => whnf)
      | ((with_reducible apply gd_t); conv => whnf)
      | ((with_reducible apply gd_nt); conv => whnf)
      | ((with_reducible apply gd_nf); conv => whnf)
      | (apply gd_br)
      | (apply nd_gl; (· omega); conv => whnf)
      | (apply And.intro; (· first | with_reducible rfl | exact trivial | exact Or.inl ⟨rfl, rfl⟩ | exact Or.inr rfl | decide | omega | (apply Nat.le_of_ble_eq_true; rfl) | (dsimp only; omega) | (simp only [ints_len, gl_len, mp_len, List.length_cons, List.length_nil, List.length_drop, List.length_take]; omega)); conv => whnf)
      | apply br_not
      | (apply br_t; conv => whnf)
      | (apply br_yes; (· omega); conv => whnf)
      | (apply br_no; (· omega); conv => whnf)
      | (apply br_dec <;> intro hbr <;> (first | rw [decide_eq_true hbr] | rw [decide_eq_false hbr] | skip) <;> conv => whnf)
      | fail
    all_goals first
      | (refine chk_blk (by assumption) (by assumption) ?_; unfold blkOk; simp_all; done)
      | skip
    · refine Exists.intro (i + 1) (And.intro (And.intro ⟨by omega, take_all_in hi2 (by assumption) ?_⟩ (by omega)) ?_)
      · unfold blkOk; simp_all
      · conv => whnf
        repeat' first
          | apply True.intro
          | (apply ptr_and; (· kernel_rfl); conv => whnf)
          | omega
          | (apply Or.inr; rfl)
          | (apply or_row; (· rfl); (· rfl); rfl)
          | (apply And.intro <;> conv => whnf)
          | fail
    · refine chk_good (by assumption) ?_
      rw [List.take_of_length_le (by omega)] at hi2
      unfold wtsOk
      simp_all
  · refine chk_bad (by assumption) ?_; unfold wtsOk; simp_all
  · refine chk_bad (by assumption) ?_; unfold wtsOk; simp_all
  · refine chk_bad (by assumption) ?_; unfold wtsOk; simp_all
  · refine chk_bad (by assumption) ?_; unfold wtsOk; simp_all
  · exact chk_shp (by assumption)
end Go.Proofs.Ytjihjjbieeofdaa.T
namespace Go.Proofs.Ytjihjjbieeofdaa.T
set_option linter.unusedSimpArgs false
set_option linter.unusedVariables false
open Go
set_option linter.unusedVariables false
set_option maxHeartbeats 4000000
set_option maxRecDepth 100000
/-! a token's row at a place -/
def sPlace (row : List Int) (at_ : Nat) : List Int := mp row.length fun j => sSat (row.getD j 0 + sSat ((at_ : Int) * ((j % 3 : Nat) : Int) * 4096))
theorem sPlace_len (row : List Int) (a : Nat) : (sPlace row a).length = row.length := mp_len _ _
theorem sPlace_i32 (row : List Int) (a : Nat) : I32s (sPlace row a) := mp_i32s fun _ _ => sSat_i32 _
def ePlace : Env := ⟨tbl, [], [], [], [(0, [0, 1]), (1, [1, 5]), (2, [1, 5, 10, 11]), (3, [1, 5, 10, 11, 12]), (4, [1, 5, 6, 10, 11]), (5, [1, 5, 10, 11]), (6, [1, 5, 10, 11]), (7, [4])]⟩
theorem place_ok {nr : Option Bool} {row : List Int} {a : Nat} (hl : row.length ≤ 4096) (ha : a ≤ 1000) (hw : I32s row) : Impl Try.prog 65 [.sl none nr 1 false (ints .i32 row), .i .i64 a] (rowA (some 0) (sPlace row a)) := by
  refine impl_of (fn := Try.f65) tbl_ok (by kernel_rfl) (by kernel_rfl) rfl ⟨by simp [Try.f65], by decide⟩ rfl fun W0 => ?_
  repeat' first
    | apply WP.seq
    | (apply WP.region (E := ePlace) mixed tbl_ok; conv => whnf)
    | apply WP.block
    | (apply reg_and; (· kernel_rfl); conv => whnf)
    | (apply ex_ilen; conv => whnf)
    | (apply And.intro; (· first | with_reducible rfl | exact trivial | exact Or.inl ⟨rfl, rfl⟩ | exact Or.inr rfl | decide | omega | (apply Nat.le_of_ble_eq_true; rfl) | (dsimp only; omega) | (simp only [ints_len, gl_len, mp_len, List.length_cons, List.length_nil, List.length_drop, List.length_take]; omega)); conv => whnf)
    | fail
  have e0 : (mp row.length fun j => if j < 0 then sSat (row.getD j 0 + sSat ((a : Int) * ((j % 3 : Nat) : Int) * 4096)) else row.getD j 0) = row := (mp_congr fun j hj => by rw [if_neg (by omega)]).trans (mp_self row)
  refine WP.loopM [5, 6, 11, 12] (fun i : Nat => [(5, .sl (some 0) none 1 false (ints .i32 (mp row.length fun j => if j < i then sSat (row.getD j 0 + sSat ((a : Int) * ((j % 3 : Nat) : Int) * 4096)) else row.getD j 0))), (11, .i .i64 i)]) (fun i => i ≤ row.length) (fun i => row.length - i) 0 ?_
  conv => whnf
  refine And.intro (And.intro ?_ ?_) (fun i hi => ?_)
  · omega
  · conv => whnf
    repeat' first
      | apply True.intro
      | (apply ptr_and; (· kernel_rfl); conv => whnf)
      | omega
      | (apply Or.inl; rfl)
      | (apply And.intro <;> conv => whnf)
      | (rw [e0]; apply or_row; (· rfl); (· rfl); rw [List.nil_append])
      | fail
  conv => whnf
  clear e0
  have hget : i < row.length → (mp row.length fun j => if j < i then sSat (row.getD j 0 + sSat ((a : Int) * ((j % 3 : Nat) : Int) * 4096)) else row.getD j 0).getD ((i : Int).toNat) 0 = row.getD i 0 := fun hi => by rw [Int.toNat_natCast, mp_get hi, if_neg (by omega)]
  have hlen : (mp row.length fun j => if j < i then sSat (row.getD j 0 + sSat ((a : Int) * ((j % 3 : Nat) : Int) * 4096)) else row.getD j 0).length = row.length := mp_len _ _
  have hx := getD_i32 hw i
  have hm : (a : Int) * ((i : Int) % 3) = ((a * (i % 3) : Nat) : Int) := by simp
  have hb : a * (i % 3) ≤ 1000 * 2 := Nat.mul_le_mul ha (by omega)
  have hz := (sSat_i32 (((a * (i % 3) : Nat) : Int) * 4096))
  repeat' first
    | apply WP.seq
    | (apply WP.region (E := ePlace) mixed tbl_ok; conv => whnf)
    | (apply WP.cond; conv => whnf)
    | (apply WP.skip; conv => whnf)
    | (apply WP.ret; conv => whnf)
    | (apply WP.exit; conv => whnf)
    | apply WP.block
    | (rw [hget (by omega)]; conv => whnf)
    | (apply ex_as64 hm ⟨by omega, by omega⟩; conv => whnf)
    | (apply ex_as64 (show ((a * (i % 3) : Nat) : Int) * 2 ^ _ = ((a * (i % 3) : Nat) : Int) * 4096 from rfl) ⟨by omega, by omega⟩; conv => whnf)
    | (apply reg_and; (· kernel_rfl); conv => whnf)
    | (apply ex_and; (· with_reducible exact sat_ok _); conv => whnf)
    | (apply ex_and; (· with_reducible exact add_ok _ _ hx hz); conv => whnf)
    | (apply ex_i64; (· omega); conv => whnf)
    | (apply ex_rem; (· omega); conv => whnf)
    | (apply ex_ints; (· omega); conv => whnf)
    | (apply ex_eq; conv => whnf)
    | (apply nd_ints; (· omega); conv => whnf)
    | (apply And.intro; (· first | with_reducible rfl | exact trivial | exact Or.inl ⟨rfl, rfl⟩ | exact Or.inr rfl | decide | omega | (apply Nat.le_of_ble_eq_true; rfl) | (dsimp only; omega) | (simp only [ints_len, gl_len, mp_len, List.length_cons, List.length_nil, List.length_drop, List.length_take]; omega)); conv => whnf)
    | (apply br_dec <;> intro hbr <;> (first | rw [decide_eq_true hbr] | rw [decide_eq_false hbr] | skip) <;> conv => whnf)
    | fail
  · refine Exists.intro (i + 1) (And.intro (And.intro ?_ ?_) ?_)
    · first | omega | skip
    · first | omega | skip
    conv => whnf
    repeat' first
      | apply True.intro
      | (apply ptr_and; (· kernel_rfl); conv => whnf)
      | omega
      | (apply Or.inr; rfl)
      | (apply And.intro <;> conv => whnf)
      | fail
    refine or_row rfl rfl ?_
    rw [Int.toNat_natCast]
    refine ints_put fun j hj => ?_
    by_cases h1 : j = i
    · subst h1; rw [if_pos (by omega), if_pos rfl, Int.natCast_mul]
    · rw [if_neg h1]
      by_cases h2 : j < i
      · rw [if_pos h2, if_pos (by omega)]
      · rw [if_neg h2, if_neg (by omega)]
  · have e : i = row.length := by omega
    subst e
    have e2 : (mp row.length fun j => if j < row.length then sSat (row.getD j 0 + sSat ((a : Int) * ((j % 3 : Nat) : Int) * 4096)) else row.getD j 0) = sPlace row a := mp_congr fun j hj => by rw [if_pos hj]
    rw [e2]
    repeat' first
      | (apply or_row; (· rfl); (· rfl); rfl)
      | fail
/-! models that are right -/
def MatG (r c : Nat) (m : MatD) : Prop := m.r = r ∧ m.c = c ∧ Mat r c m.d
structure BlkG (D H : Nat) (b : Blk) : Prop where
  first : b.first.length = D ∧ I32s b.first
  q : MatG D D b.q
  k : MatG D D b.k
  v : MatG D D b.v
  o : MatG D D b.o
  second : b.second.length = D ∧ I32s b.second
  up : MatG H D b.up
  down : MatG D H b.down
structure WtsG (V D H L : Nat) (w : Wts) : Prop where
  embed : MatG V D w.embed
  blocks : ∀ b ∈ w.blocks, BlkG D H b
  layers : w.blocks.length = L
  last : w.last.length = D ∧ I32s w.last
  out : MatG V D w.out
theorem apply_okM {nl nv : Option Bool} {r c : Nat} {m : MatD} {v : List Int} (h : MatG r c m) (hv : v.length = c) (hw : I32s v) : Impl Try.prog 89 [matA none nl m.r m.c m.d, .sl none nv 1 false (ints .i32 v)] (.tup [rowA (some 0) (sApply r c m.d v), .i .i64 0]) := by
  obtain ⟨h1, h2, h3⟩ := h
  rw [h1, h2]; exact apply_ok h3 hv hw
theorem row_okM {nl : Option Bool} {r c : Nat} {m : MatD} (h : MatG r c m) {i : Nat} (hi : i < r) : Impl Try.prog 64 [matA none nl m.r m.c m.d, .i .i64 i] (.tup [rowA (some 0) (sRow c m.d i), .i .i64 0]) := by
  obtain ⟨h1, h2, h3⟩ := h
  rw [h1, h2]; exact row_ok h3 hi
def sHalf (D H : Nat) (b : Blk) (x : List Int) : List Int := sPlus x (sApply D H b.down.d (sRise (sApply H D b.up.d (sNorm x b.second))))
theorem sHalf_len (D H : Nat) (b : Blk) (x : List Int) : (sHalf D H b x).length = x.length := sPlus_len _ _
theorem sHalf_i32 (D H : Nat) (b : Blk) (x : List Int) : I32s (sHalf D H b x) := sPlus_i32 _ _
def eHalf : Env := ⟨tbl, [32], [], [], [(0, [1, 2, 3999, 3000, 3001, 3002, 3003, 3004, 3005, 3006, 3007, 3008, 3009, 3010, 3011, 3012, 3013, 3014, 3015, 3016, 3017, 3018, 3019]), (1, [1, 2, 5, 3999, 3000, 3001, 3002, 3003, 3004, 3005, 3006, 3007, 3008, 3009, 3010, 3011, 3012, 3013, 3014, 3015, 3016, 3017, 3018, 3019]), (2, [1, 2, 7, 3999, 3000, 3001, 3002, 3003, 3004, 3005, 3006, 3007, 3008, 3009, 3010, 3011, 3012, 3013, 3014, 3015, 3016, 3017, 3018, 3019]), (3, [1, 9]), (4, [11]), (5, [4])]⟩
theorem half_ok {nx : Option Bool} {D H : Nat} {b : Blk} {x : List Int} (hD : 0 < D ∧ D ≤ 128) (hH : 0 < H ∧ H ≤ 128) (hb : BlkG D H b) (hx : x.length = D) (hw : I32s x) : Impl Try.prog 92 [blkA none b, .sl none nx 1 false (ints .i32 x)] (rowA (some 0) (sHalf D H b x)) := by
  obtain ⟨s1, s2⟩ := hb.second
  have l1 := sNorm_len x b.second
  have l2 := sApply_len H D b.up.d (sNorm x b.second)
  have l3 := sRise_len (sApply H D b.up.d (sNorm x b.second))
  have l4 := sApply_len D H b.down.d (sRise (sApply H D b.up.d (sNorm x b.second)))
  refine impl_of (fn := Try.f92) tbl_ok (by kernel_rfl) (by kernel_rfl) rfl ⟨by simp [Try.f92], by decide⟩ rfl fun W0 => ?_
  repeat' first
    | apply WP.seq
    | (apply WP.region (E := eHalf) mixed tbl_ok; conv => whnf)
    | (apply WP.ret; conv => whnf)
    | (apply reg_and; (· kernel_rfl); conv => whnf)
    | (apply ex_and; (· with_reducible exact norm_ok (by omega) (by omega) (by omega) hw s2); conv => whnf)
    | (apply ex_and; (· with_reducible exact apply_okM hb.up (by omega) (sNorm_i32 _ _)); conv => whnf)
    | (apply ex_and; (· with_reducible exact rise_ok (by omega) (sApply_i32 _ _ _ _)); conv => whnf)
    | (apply ex_and; (· with_reducible exact apply_okM hb.down (by omega) (sRise_i32 _)); conv => whnf)
    | (apply ex_and; (· with_reducible exact addv_ok (by omega) (by omega) hw (sApply_i32 _ _ _ _)); conv => whnf)
    | (apply And.intro; (· first | with_reducible rfl | exact trivial | exact Or.inl ⟨rfl, rfl⟩ | exact Or.inr rfl | decide | omega | (apply Nat.le_of_ble_eq_true; rfl) | (dsimp only; omega) | (simp only [ints_len, gl_len, mp_len, List.length_cons, List.length_nil, List.length_drop, List.length_take]; omega)); conv => whnf)
    | fail
  repeat' first
    | (apply or_row; (· rfl); (· rfl); rfl)
    | fail
def sLikes (V D : Nat) (w : Wts) (row : List Int) : List Int := sApply V D w.out.d (sNorm row w.last)
def eLikes : Env := ⟨tbl, [], [], [], [(0, [1, 2, 3999, 3000, 3001, 3002, 3003, 3004, 3005, 3006, 3007]), (1, [2, 5, 3999, 3000, 3001, 3002, 3003, 3004, 3005, 3006, 3007]), (2, [7]), (3, [4])]⟩
theorem likes_ok {nx : Option Bool} {V D H L : Nat} {w : Wts} {x : List Int} (hD : 0 < D ∧ D ≤ 128) (hg : WtsG V D H L w) (hx : x.length = D) (hw : I32s x) : Impl Try.prog 67 [wtsA none none w, .sl none nx 1 false (ints .i32 x)] (rowA (some 0) (sLikes V D w x)) := by
  obtain ⟨s1, s2⟩ := hg.last
  have l1 := sNorm_len x w.last
  refine impl_of (fn := Try.f67) tbl_ok (by kernel_rfl) (by kernel_rfl) rfl ⟨by simp [Try.f67], by decide⟩ rfl fun W0 => ?_
  repeat' first
    | apply WP.seq
    | (apply WP.region (E := eLikes) mixed tbl_ok; conv => whnf)
    | (apply WP.ret; conv => whnf)
    | (apply reg_and; (· kernel_rfl); conv => whnf)
    | (apply ex_and; (· with_reducible exact norm_ok (by omega) (by omega) (by omega) hw s2); conv => whnf)
    | (apply ex_and; (· with_reducible exact apply_okM hg.out (by omega) (sNorm_i32 _ _)); conv => whnf)
    | (apply And.intro; (· first | with_reducible rfl | exact trivial | exact Or.inl ⟨rfl, rfl⟩ | exact Or.inr rfl | decide | omega | (apply Nat.le_of_ble_eq_true; rfl) | (dsimp only; omega) | (simp only [ints_len, gl_len, mp_len, List.length_cons, List.length_nil, List.length_drop, List.length_take]; omega)); conv => whnf)
    | fail
  repeat' first
    | (apply or_row; (· rfl); (· rfl); rfl)
    | fail
def sBegin (D : Nat) (w : Wts) (t a : Nat) : List Int := sPlace (sRow D w.embed.d t) a
theorem sBegin_len (D : Nat) (w : Wts) (t a : Nat) : (sBegin D w t a).length = D := (sPlace_len _ _).trans (sRow_len _ _ _)
theorem sBegin_i32 (D : Nat) (w : Wts) (t a : Nat) : I32s (sBegin D w t a) := sPlace_i32 _ _
def eBegin : Env := ⟨tbl, [], [], [], [(0, [1, 2, 3, 4999, 4000, 4001, 4002, 4003, 4004, 4005, 4006, 4007]), (1, [2, 7]), (2, [6])]⟩
theorem begin_ok {V D H L : Nat} {w : Wts} {t a : Nat} (hg : WtsG V D H L w) (ht : t < V) (ha : a ≤ 1000) (hD : D ≤ 128) : Impl Try.prog 73 [wtsA none none w, .i .i64 t, .i .i64 a] (rowA (some 0) (sBegin D w t a)) := by
  have l1 := sRow_len D w.embed.d t
  have hi := sRow_i32 (c := D) (i := t) hg.embed.2.2.i32
  refine impl_of (fn := Try.f73) tbl_ok (by kernel_rfl) (by kernel_rfl) rfl ⟨by simp [Try.f73], by decide⟩ rfl fun W0 => ?_
  repeat' first
    | apply WP.seq
    | (apply WP.region (E := eBegin) mixed tbl_ok; conv => whnf)
    | (apply WP.ret; conv => whnf)
    | (apply reg_and; (· kernel_rfl); conv => whnf)
    | (apply ex_and; (· with_reducible exact row_okM hg.embed ht); conv => whnf)
    | (apply ex_and; (· with_reducible exact place_ok (by omega) ha hi); conv => whnf)
    | (apply And.intro; (· first | with_reducible rfl | exact trivial | exact Or.inl ⟨rfl, rfl⟩ | exact Or.inr rfl | decide | omega | (apply Nat.le_of_ble_eq_true; rfl) | (dsimp only; omega) | (simp only [ints_len, gl_len, mp_len, List.length_cons, List.length_nil, List.length_drop, List.length_take]; omega)); conv => whnf)
    | fail
  repeat' first
    | (apply or_row; (· rfl); (· rfl); rfl)
    | fail
/-! one row more -/
theorem gl_snocR (o : Option Nat) (l : List (List Int)) (r : List Int) : gl (rowA o) l ++ [.sl o none 1 false (ints .i32 r)] = gl (rowA o) (l ++ [r]) := by simp [gl, rowA]
structure One where
  x : List Int
  k : List Int
  v : List Int
def sOne (D H s : Nat) (b : Blk) (x : List Int) (keys vals : List (List Int)) : One :=
  let n := sNorm x b.first
  let k := sApply D D b.k.d n
  let v := sApply D D b.v.d n
  ⟨sHalf D H b (sPlus x (sApply D D b.o.d (sAttend (sApply D D b.q.d n) (keys ++ [k]) (vals ++ [v]) s))), k, v⟩
theorem rowsN_snoc {m : Nat} {l : List (List Int)} {r : List Int} (h : RowsN m l) (hr : r.length = m ∧ I32s r) : RowsN m (l ++ [r]) := fun x hx => by
  rcases List.mem_append.1 hx with hx | hx
  · exact h x hx
  · rw [List.mem_singleton.1 hx]; exact hr
end Go.Proofs.Ytjihjjbieeofdaa.T

