/- What functions of the program come to, on trees. No condition but those that the theorems name. -/
import Derived.WalkKit
import Derived.ProofKit
import Derived.Laws.Tables
import Derived.Laws.Rows
import Derived.Below
import Derived.Deep.Draws
import Derived.Deep.QuietTactic
import Derived.BigQuiet
import Derived.Tactics
import Derived.KernelRfl
import Derived.Test.YtjihjjbieeofdaaPK4
namespace Go.Proofs.Ytjihjjbieeofdaa.T
set_option linter.unusedSimpArgs false
set_option linter.unusedVariables false
open Go Go.RowKit
set_option linter.unusedVariables false
structure Aside0 (p : Prop) : Prop where mk :: (out : p)
def rd (xs : List Int) (i : Int) : Int := xs.getD i.toNat 0
def mn (a b : Int) : Int := if b < a then b else a
theorem pw_below_drewN {B : Nat} {w W : World} (h : Below B w W) (n : Nat) : Below B w (W.drewN n) := ⟨h.os, h.tape, h.output, h.size, h.block⟩
theorem below_alloc {w W : World} (h : Below w.heap.size w W) (o : Obj) : Below w.heap.size w (W.alloc o) := h.alloc h.size o
/-- The numbers of curve.Steps. -/
def curve_steps : List Int := [65536, 64830, 64132, 63441, 62757, 62081, 61413, 60751, 60097, 59449, 58809, 58176, 57549, 56929, 56316, 55709, 55109, 54515, 53928, 53347, 52773, 52204, 51642, 51085, 50535, 49991, 49452, 48920, 48393, 47871, 47356, 46846, 46341, 45842, 45348, 44859, 44376, 43898, 43425, 42958, 42495, 42037, 41584, 41136, 40693, 40255, 39821, 39392, 38968, 38548, 38133, 37722, 37316, 36914, 36516, 36123, 35734, 35349, 34968, 34591, 34219, 33850, 33486, 33125, 32768]
def curve_stepsV : Array Value := #[.int .i32 65536, .int .i32 64830, .int .i32 64132, .int .i32 63441, .int .i32 62757, .int .i32 62081, .int .i32 61413, .int .i32 60751, .int .i32 60097, .int .i32 59449, .int .i32 58809, .int .i32 58176, .int .i32 57549, .int .i32 56929, .int .i32 56316, .int .i32 55709, .int .i32 55109, .int .i32 54515, .int .i32 53928, .int .i32 53347, .int .i32 52773, .int .i32 52204, .int .i32 51642, .int .i32 51085, .int .i32 50535, .int .i32 49991, .int .i32 49452, .int .i32 48920, .int .i32 48393, .int .i32 47871, .int .i32 47356, .int .i32 46846, .int .i32 46341, .int .i32 45842, .int .i32 45348, .int .i32 44859, .int .i32 44376, .int .i32 43898, .int .i32 43425, .int .i32 42958, .int .i32 42495, .int .i32 42037, .int .i32 41584, .int .i32 41136, .int .i32 40693, .int .i32 40255, .int .i32 39821, .int .i32 39392, .int .i32 38968, .int .i32 38548, .int .i32 38133, .int .i32 37722, .int .i32 37316, .int .i32 36914, .int .i32 36516, .int .i32 36123, .int .i32 35734, .int .i32 35349, .int .i32 34968, .int .i32 34591, .int .i32 34219, .int .i32 33850, .int .i32 33486, .int .i32 33125, .int .i32 32768]
def curve_zerosV : Array Value := Array.replicate 65 (.int .i32 0)
theorem curve_Steps.zero (W : World) : (zeroValue 179).run Try.prog W = .ok (.agg curve_zerosV) W := by kernel_rfl
theorem curve_Steps.build_to {P : Program} {ops : Array Oper} {rest : List Oper} {o : Oper} {a : Act} {w : World} {Q : Exit → Act → World → Prop} (hg : o.guard = none) (t : TypeId) (parts : Array (Nat × Operand)) (ho : o.op = .build t parts) (cs : Array Value)
    (hf : P.built t (parts.map fun (i, x) => (i, a.eval x)).toList = some cs) (h : wpList P ops Q rest (a.put o.dst (.agg cs)) w) : wpList P ops Q (o :: rest) a w :=
  wpList_build hg t parts ho (by rw [hf]; rfl) (by rw [hf]; exact h)
theorem curve_Steps.below {B : Nat} {w W : World} (h : Below B w W) (g : Nat) (hg : B ≤ g) (cs : Array Value) : Below B w (W.setRow g cs) :=
  ⟨h.os, h.tape, h.output, by rw [size_setRow]; exact h.size, fun i hi => (setRow_other W g i cs (by omega)).trans (h.block i hi)⟩
set_option maxHeartbeats 4000000 in
set_option maxRecDepth 100000 in
theorem curve_Steps.calls (w : World) : Calls Try.prog 133 #[] w fun e w' => e = .returned (.agg curve_stepsV) ∧ Below w.heap.size w w' := by
  have hz := curve_Steps.zero
  go_enter Try.func133, Try.ntmps133
  go_wp2_with (first | (refine curve_Steps.build_to rfl 179 _ rfl curve_stepsV (by kernel_rfl) ?_) | (refine wpList_store_row rfl 179 _ _ rfl w.heap.size curve_stepsV rfl rfl 179 curve_zerosV (heap_alloc_new _ _) (by kernel_rfl) (by kernel_rfl) (by kernel_rfl) ?_))
  exact bodyPost_ret (results_cell_row rfl _ _ w.heap.size 179 curve_stepsV (0, 0) _ rfl (setRow_heap _ _ _ _ _ _ (heap_alloc_new _ _)) Try.underlying179 rfl (by kernel_rfl)) rfl ⟨rfl, curve_Steps.below (below_alloc (Below.refl _ _) _) _ (Nat.le_refl _) _⟩
theorem curve_Steps.at_ (j : Nat) (h : j < 65) : curve_stepsV[j]? = some (.int .i32 (rd curve_steps j)) := by
  have e : curve_stepsV = (curve_steps.map (Value.int .i32)).toArray := rfl
  have hl : curve_steps.length = 65 := rfl
  have hj : j < curve_steps.length := by omega
  rw [e]
  simp [rd, hj]
theorem curve_Steps.bounds : ∀ j : _root_.Fin 64, 32768 ≤ rd curve_steps (j.val : Nat) ∧ rd curve_steps (j.val : Nat) ≤ 65536 ∧ 32768 ≤ rd curve_steps ((j.val : Nat) + 1) ∧ rd curve_steps ((j.val : Nat) + 1) ≤ rd curve_steps (j.val : Nat) := by decide
theorem curve_Pow.num (a b R : Int) (m : Nat) (b1 : 32768 ≤ a) (b2 : a ≤ 65536) (b3 : 32768 ≤ b) (b4 : b ≤ a) (r0 : 0 ≤ R) (r1 : R < 1024) :
    wrap32 (wrap64 (wrap64 a - wrap64 (wrap64 (wrap64 (wrap64 a - wrap64 b) * R) + 512) / 1024) / 2 ^ m) = (a - ((a - b) * R + 512) / 1024) / 2 ^ m := by
  have w1 : wrap64 a = a := by unfold wrap64; omega
  have w2 : wrap64 b = b := by unfold wrap64; omega
  have w3 : wrap64 (a - b) = a - b := by unfold wrap64; omega
  have p0 : 0 ≤ (a - b) * R := Int.mul_nonneg (by omega) r0
  have p1 : (a - b) * R ≤ (a - b) * 1023 := Int.mul_le_mul_of_nonneg_left (by omega) (by omega)
  rw [w1, w2, w3]
  generalize (a - b) * R = p at *
  have w4 : wrap64 p = p := by unfold wrap64; omega
  rw [w4]
  have w5 : wrap64 (p + 512) = p + 512 := by unfold wrap64; omega
  rw [w5]
  have w6 : wrap64 (a - (p + 512) / 1024) = a - (p + 512) / 1024 := by unfold wrap64; omega
  rw [w6]
  have v0 : 0 ≤ a - (p + 512) / 1024 := by omega
  have v1 : a - (p + 512) / 1024 ≤ 65536 := by omega
  generalize a - (p + 512) / 1024 = v at *
  have q0 : 0 ≤ v / 2 ^ m := Int.ediv_nonneg v0 (Int.le_of_lt (Int.pow_pos (by decide)))
  have q1 : v / 2 ^ m ≤ v := Int.ediv_le_self _ v0
  unfold wrap32
  omega
/-- What curve.Pow comes to. -/
def curve_powY (a0 : Int) : Int := -(mn a0 0)
def curve_powV (y : Int) : Int := rd curve_steps (y / 1024 % 64) - ((rd curve_steps (y / 1024 % 64) - rd curve_steps (y / 1024 % 64 + 1)) * (y % 1024) + 512) / 1024
def curve_Pow.f (a0 : Int) : Option Int := if -2147483648 ≤ a0 ∧ a0 ≤ 2147483647 then some (curve_powV (curve_powY a0) / 2 ^ (mn (curve_powY a0 / 65536) 62).toNat) else none
theorem curve_Pow.mask63 (y : Int) (h0 : 0 ≤ y) (h1 : y ≤ 2147483648) : bits .and .i64 (y / 1024) 63 = y / 1024 % 64 :=
  bits_mask .i64 62 (by decide) (fun n h0 h1 => by rw [IntKind.wrap_i64]; omega) 6 (by decide) (y / 1024) (by omega) (by omega)
theorem curve_Pow.mask1023 (y : Int) (h0 : 0 ≤ y) (h1 : y ≤ 2147483648) : bits .and .i64 y 1023 = y % 1024 :=
  bits_mask .i64 62 (by decide) (fun n h0 h1 => by rw [IntKind.wrap_i64]; omega) 10 (by decide) y (by omega) (by omega)
theorem ret_num {k : IntKind} {a b : Int} (h : a = b) : Ending.returned (.int k a) = .returned (.int k b) := by rw [h]
set_option maxHeartbeats 4000000 in
set_option maxRecDepth 100000 in
theorem curve_Pow.calls_neg (y : Int) (h0 : 0 ≤ y) (h1 : y ≤ 2147483648) (w : World) :
    Calls Try.prog 125 #[.int .i32 (-y)] w fun e w' => e = .returned (.int .i32 (curve_powV y / 2 ^ (mn (y / 65536) 62).toNat)) ∧ Below w.heap.size w w' := by
  have hz := curve_Steps.zero
  have k1 := curve_Pow.mask63 y h0 h1
  have k2 := curve_Pow.mask1023 y h0 h1
  have k3 : ¬ (0 < -y) := by omega
  have k4 : 0 ≤ y / 1024 % 64 := by omega
  have k5 : y / 1024 % 64 < 64 := by omega
  go_enter Try.func125, Try.ntmps125
  go_wp2_with (first | (go_at_call 133; refine (curve_Steps.calls _).mono ?_; rintro e w1 ⟨rfl, hb⟩; have HB := Aside0.mk hb; clear hb) | (refine wpList_store_row rfl 179 _ _ rfl _ curve_stepsV rfl rfl 179 curve_zerosV (heap_alloc_new _ _) (by kernel_rfl) (by kernel_rfl) (by kernel_rfl) ?_))
  (try simp only [Act.put])
  obtain ⟨n, hn⟩ : ∃ n : Nat, y / 1024 % 64 = n := ⟨(y / 1024 % 64).toNat, by omega⟩
  have hn64 : n < 64 := by omega
  have HG := Aside0.mk (setRow_heap (w1.alloc (Obj.cells curve_zerosV 179)) w1.heap.size curve_zerosV curve_stepsV 179 (0, 0) (heap_alloc_new _ _))
  have HB2 := Aside0.mk (curve_Steps.below (below_alloc HB.out (Obj.cells curve_zerosV 179)) w1.heap.size HB.out.size curve_stepsV)
  rw [hn]
  have Hn := Aside0.mk hn
  clear hn hz k1 k2 k3 k4 k5
  generalize (w1.alloc (Obj.cells curve_zerosV 179)).setRow w1.heap.size curve_stepsV = W2 at *
  have c1 : W2.cell? ⟨w1.heap.size, n, none⟩ = some (.int .i32 (rd curve_steps n)) := (cell_of_row _ _ _ _ _ _ HG.out).trans (curve_Steps.at_ n (by omega))
  have c2 : W2.cell? ⟨w1.heap.size, n + 1, none⟩ = some (.int .i32 (rd curve_steps (n + 1))) := (cell_of_row _ _ _ _ _ _ HG.out).trans (curve_Steps.at_ (n + 1) (by omega))
  go_quiet (fail)
  have hbd := curve_Steps.bounds ⟨n, hn64⟩
  simp only at hbd
  have HV : Aside0 (curve_powV y = rd curve_steps n - ((rd curve_steps n - rd curve_steps (n + 1)) * (y % 1024) + 512) / 1024) := ⟨by unfold curve_powV; rw [Hn.out]⟩
  clear c1 c2
  generalize rd curve_steps (n + 1) = b at *
  generalize rd curve_steps n = a at *
  obtain ⟨b1, b2, b3, b4⟩ := hbd
  have hR0 : 0 ≤ y % 1024 := by omega
  have hR1 : y % 1024 < 1024 := by omega
  have HR := Aside0.mk (fun m => curve_Pow.num a b (y % 1024) m b1 b2 b3 b4 hR0 hR1)
  have hy : ∀ m : Nat, wrap32 (wrap64 (wrap64 a - wrap64 (wrap64 (wrap64 (wrap64 a - wrap64 b) * (y % 1024)) + 512) / 1024) / 2 ^ m) = curve_powV y / 2 ^ m := fun m => by rw [HV.out]; exact HR.out m
  have HY := Aside0.mk hy
  clear hy HR hR0 hR1
  go_wp2
  · go_ret
    refine ⟨?_, pw_below_drewN HB2.out _⟩
    rw [show mn (y / 65536) 62 = 62 by unfold mn; rw [if_pos (by assumption)]]
    have h_ := HY.out 62
    have e_ : (2 : Int) ^ 62 = 4611686018427387904 := by decide
    have e2_ : (2 : Int) ^ (62 : Int).toNat = 4611686018427387904 := by decide
    rw [e2_]
    rw [e_] at h_
    exact ret_num h_
  · go_ret
    refine ⟨?_, pw_below_drewN HB2.out _⟩
    rw [show mn (y / 65536) 62 = y / 65536 by unfold mn; rw [if_neg (by omega)]]
    exact ret_num (HY.out _)
set_option maxHeartbeats 4000000 in
set_option maxRecDepth 100000 in
theorem curve_Pow.calls_pos (a0 : Int) (h0 : 0 < a0) (h1 : a0 ≤ 2147483647) (w : World) :
    Calls Try.prog 125 #[.int .i32 a0] w fun e w' => e = .returned (.int .i32 65536) ∧ Below w.heap.size w w' := by
  have hz := curve_Steps.zero
  have k3 : ¬ (a0 ≤ 0) := by omega
  obtain ⟨n, hn⟩ : ∃ n : Nat, n = 0 := ⟨0, rfl⟩
  have hn64 : n < 64 := by omega
  have k1 : bits .and .i64 0 63 = n := by rw [hn]; decide
  have Hn := Aside0.mk hn
  clear hn
  have k2 : bits .and .i64 0 1023 = 0 := by decide
  go_enter Try.func125, Try.ntmps125
  go_wp2_with (first | (go_at_call 133; refine (curve_Steps.calls _).mono ?_; rintro e w1 ⟨rfl, hb⟩; have HB := Aside0.mk hb; clear hb) | (refine wpList_store_row rfl 179 _ _ rfl _ curve_stepsV rfl rfl 179 curve_zerosV (heap_alloc_new _ _) (by kernel_rfl) (by kernel_rfl) (by kernel_rfl) ?_))
  (try simp only [Act.put])
  have HG := Aside0.mk (setRow_heap (w1.alloc (Obj.cells curve_zerosV 179)) w1.heap.size curve_zerosV curve_stepsV 179 (0, 0) (heap_alloc_new _ _))
  have HB2 := Aside0.mk (curve_Steps.below (below_alloc HB.out (Obj.cells curve_zerosV 179)) w1.heap.size HB.out.size curve_stepsV)
  clear hz k1 k2
  generalize (w1.alloc (Obj.cells curve_zerosV 179)).setRow w1.heap.size curve_stepsV = W2 at *
  have c1 : W2.cell? ⟨w1.heap.size, n, none⟩ = some (.int .i32 65536) := (cell_of_row _ _ _ _ _ _ HG.out).trans (by rw [Hn.out]; exact curve_Steps.at_ 0 (by omega))
  have c2 : W2.cell? ⟨w1.heap.size, n + 1, none⟩ = some (.int .i32 64830) := (cell_of_row _ _ _ _ _ _ HG.out).trans (by rw [Hn.out]; exact curve_Steps.at_ 1 (by omega))
  go_quiet (fail)
  clear c1 c2
  go_wp2
  all_goals (go_ret; exact ⟨rfl, pw_below_drewN HB2.out _⟩)
theorem curve_Pow.calls (a0 : Int) (r : Int) (w : World) (h : curve_Pow.f a0 = some r) :
    Calls Try.prog 125 #[.int .i32 a0] w fun e w' => e = .returned (.int .i32 r) ∧ Below w.heap.size w w' := by
  unfold curve_Pow.f at h
  by_cases hb : -2147483648 ≤ a0 ∧ a0 ≤ 2147483647
  · rw [if_pos hb] at h
    obtain rfl := Option.some.inj h
    by_cases h0 : 0 < a0
    · have hy : curve_powY a0 = 0 := by unfold curve_powY mn; rw [if_pos h0]; rfl
      rw [hy]
      exact curve_Pow.calls_pos a0 h0 hb.2 w
    · have hy : curve_powY a0 = -a0 := by unfold curve_powY mn; rw [if_neg h0]
      rw [hy]
      have := curve_Pow.calls_neg (-a0) (by omega) (by omega) w
      rw [Int.neg_neg] at this
      exact this
  · rw [if_neg hb] at h
    cases h
end Go.Proofs.Ytjihjjbieeofdaa.T
namespace Go.Proofs.Ytjihjjbieeofdaa.T
set_option linter.unusedSimpArgs false
set_option linter.unusedVariables false
open Go
set_option linter.unusedVariables false
set_option maxHeartbeats 2000000
theorem mp_set {α : Type} {n i : Nat} {F G : Nat → α} {v : α} (h : ∀ j, j < n → G j = if j = i then v else F j) : (mp n F).set i v = mp n G := by
  refine List.ext_getElem (by rw [List.length_set, mp_len, mp_len]) fun j h1 h2 => ?_
  rw [mp_len] at h2
  rw [List.getElem_set]
  have e1 : (mp n G)[j]'(by rw [mp_len]; exact h2) = G j := by simp [mp]
  rw [e1, h j h2]
  split
  · rename_i e; rw [if_pos e.symm]
  · rename_i e; rw [if_neg (fun e2 => e e2.symm)]; simp [mp]
/-! the greatest one -/
/-! weights -/
end Go.Proofs.Ytjihjjbieeofdaa.T
namespace Go.Proofs.Ytjihjjbieeofdaa.T
set_option linter.unusedSimpArgs false
set_option linter.unusedVariables false
open Go
set_option linter.unusedVariables false
set_option maxHeartbeats 2000000
/-- Rows of m numbers. -/
abbrev RowsN (m : Nat) (l : List (List Int)) : Prop := ∀ r ∈ l, r.length = m ∧ I32s r
theorem RowsN.rows {m : Nat} {l : List (List Int)} (h : RowsN m l) : Rows l := fun r hr => (h r hr).2
/-! heads -/
end Go.Proofs.Ytjihjjbieeofdaa.T
namespace Go.Proofs.Ytjihjjbieeofdaa.T
set_option linter.unusedSimpArgs false
set_option linter.unusedVariables false
open Go
set_option linter.unusedVariables false
set_option maxHeartbeats 4000000
set_option maxRecDepth 100000
structure Cfg where
  vocab : Int
  dim : Int
  heads : Int
  hidden : Int
  layers : Int
abbrev cfgA (c : Cfg) : AV := .agg [.i .i64 c.vocab, .i .i64 c.dim, .i .i64 c.heads, .i .i64 c.hidden, .i .i64 c.layers]
theorem ex_at {l : List AV} {n : Nat} {v : AV} {p : AV → Prop} (h : l[n]? = some v) (hp : p v) : ∃ v, l[n]? = some v ∧ p v := ⟨v, h, hp⟩
theorem cfgA_eq (c1 c2 c3 c4 c5 : Int) : cfgA ⟨c1, c2, c3, c4, c5⟩ = .agg [.i .i64 c1, .i .i64 c2, .i .i64 c3, .i .i64 c4, .i .i64 c5] := rfl
/-! tokens -/
end Go.Proofs.Ytjihjjbieeofdaa.T
namespace Go.Proofs.Ytjihjjbieeofdaa.T
set_option linter.unusedSimpArgs false
set_option linter.unusedVariables false
open Go
set_option linter.unusedVariables false
set_option maxHeartbeats 2000000
set_option maxRecDepth 100000
structure MatD where
  r : Int
  c : Int
  d : List Int
structure Blk where
  first : List Int
  q : MatD
  k : MatD
  v : MatD
  o : MatD
  second : List Int
  up : MatD
  down : MatD
structure Wts where
  embed : MatD
  blocks : List Blk
  last : List Int
  out : MatD
def matOk (r c : Int) (d : List Int) (rows cols : Int) : Prop := chk r c d = 0 ∧ r = rows ∧ c = cols
instance (r c : Int) (d : List Int) (rows cols : Int) : Decidable (matOk r c d rows cols) := by unfold matOk; infer_instance
def blkOk (c : Cfg) (b : Blk) : Prop := matOk b.q.r b.q.c b.q.d c.dim c.dim ∧ matOk b.k.r b.k.c b.k.d c.dim c.dim ∧ matOk b.v.r b.v.c b.v.d c.dim c.dim ∧ matOk b.o.r b.o.c b.o.d c.dim c.dim ∧ matOk b.up.r b.up.c b.up.d c.hidden c.dim ∧ matOk b.down.r b.down.c b.down.d c.dim c.hidden ∧ (b.first.length : Int) = c.dim ∧ (b.second.length : Int) = c.dim
instance (c : Cfg) (b : Blk) : Decidable (blkOk c b) := by unfold blkOk; infer_instance
def wtsOk (c : Cfg) (w : Wts) : Prop := matOk w.embed.r w.embed.c w.embed.d c.vocab c.dim ∧ matOk w.out.r w.out.c w.out.d c.vocab c.dim ∧ (w.last.length : Int) = c.dim ∧ (w.blocks.length : Int) = c.layers ∧ ∀ b ∈ w.blocks, blkOk c b
instance (c : Cfg) (w : Wts) : Decidable (wtsOk c w) := by unfold wtsOk; infer_instance
end Go.Proofs.Ytjihjjbieeofdaa.T
namespace Go.Proofs.Ytjihjjbieeofdaa.T
set_option linter.unusedSimpArgs false
set_option linter.unusedVariables false
open Go
set_option linter.unusedVariables false
set_option maxHeartbeats 4000000
set_option maxRecDepth 100000
/-! a token's row at a place -/
/-! models that are right -/
def MatG (r c : Nat) (m : MatD) : Prop := m.r = r ∧ m.c = c ∧ Mat r c m.d
structure BlkG (D H : Nat) (b : Blk) : Prop where
  first : b.first.length = D ∧ I32s b.first
  q : MatG D D b.q
  k : MatG D D b.k
  v : MatG D D b.v
  o : MatG D D b.o
  second : b.second.length = D ∧ I32s b.second
  up : MatG H D b.up
  down : MatG D H b.down
structure WtsG (V D H L : Nat) (w : Wts) : Prop where
  embed : MatG V D w.embed
  blocks : ∀ b ∈ w.blocks, BlkG D H b
  layers : w.blocks.length = L
  last : w.last.length = D ∧ I32s w.last
  out : MatG V D w.out
def sHalf (D H : Nat) (b : Blk) (x : List Int) : List Int := sPlus x (sApply D H b.down.d (sRise (sApply H D b.up.d (sNorm x b.second))))
/-! one row more -/
structure One where
  x : List Int
  k : List Int
  v : List Int
def sOne (D H s : Nat) (b : Blk) (x : List Int) (keys vals : List (List Int)) : One :=
  let n := sNorm x b.first
  let k := sApply D D b.k.d n
  let v := sApply D D b.v.d n
  ⟨sHalf D H b (sPlus x (sApply D D b.o.d (sAttend (sApply D D b.q.d n) (keys ++ [k]) (vals ++ [v]) s))), k, v⟩
end Go.Proofs.Ytjihjjbieeofdaa.T

