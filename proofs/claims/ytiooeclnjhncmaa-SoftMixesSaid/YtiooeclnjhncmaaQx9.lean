/- Functions of the program as plain Lean functions, each with a proof that the program's call comes to what it says; and rows of statements over them. No condition but those that the theorems name. Written by a program of this session (myprint.py, over the kit's print with patches of its own). -/
import Derived.Test.YtiooeclnjhncmaaQx0
import Derived.Test.YtiooeclnjhncmaaQx2
import Derived.Test.YtiooeclnjhncmaaQx7
namespace Go.Proofs.Ytiooeclnjhncmaa.Q
open Go.RowKit Go.Proofs.YtiooeclnjhncmaaW.PrintWords Go.Proofs.YtiooeclnjhncmaaW.PrintLast Go.Proofs.YtiooeclnjhncmaaW.PrintMore
attribute [local go_sem] max2_int min2_int max_two min_two max_three min_three max_four min_four   -- for this text's walks alone
set_option linter.unusedVariables false
set_option linter.unusedSimpArgs false

/-! ### tillerref05_Mean: function 22 -/
def tillerref05_Mean.l0 : Nat → List Int → Int → Int → Option (Int)
  | 0, _, _, _ => none
  | k + 1, x0, x3, x4 => if x4 < (x0.length : Int) then (if 0 ≤ x4 then ((tillerref03_Grow.f k x3 (wrap64 ((wrap64 (rd x0 x4)) * (wrap64 (rd x0 x4))))).bind fun t302 => (tillerref05_Mean.l0 k x0 t302 (wrap64 (x4 + 1)))) else (none)) else (if (x0.length : Int) = 0 then (none) else ((tillerref01_Sat.f (wrap64 (Int.tdiv (wrap64 (Int.tdiv x3 (x0.length : Int))) 65536))).bind fun t303 => (some t303)))
def tillerref05_Mean.f (k : Nat) (l0 : List Int) : Option (Int) := tillerref05_Mean.l0 k l0 0 0
theorem tillerref05_Mean.mono_l : ∀ k, (∀ y0 y1 y2, LeO (tillerref05_Mean.l0 k y0 y1 y2) (tillerref05_Mean.l0 (k + 1) y0 y1 y2))
  | 0 => fun _ _ _ r h => by simp [tillerref05_Mean.l0] at h
  | k + 1 => by
    have ih0 := tillerref05_Mean.mono_l k
    · intro y0 y1 y2
      unfold tillerref05_Mean.l0
      repeat' first
      | (with_reducible exact ih0 _ _ _)
      | (with_reducible exact tillerref03_Grow.mono _ _ _)
      | (with_reducible exact LeO.refl _)
      | (with_reducible exact LeO.none _)
      | (with_reducible refine LeO.ite ?_ ?_)
      | (with_reducible refine LeO.bind ?_ (fun _ => ?_))
      | exact ih0 _ _ _
      | exact tillerref03_Grow.mono _ _ _
      | exact LeO.none _
      | refine LeO.ite ?_ ?_
      | refine LeO.bind ?_ (fun _ => ?_)
theorem tillerref05_Mean.mono : ∀ a0 k, LeO (tillerref05_Mean.f k a0) (tillerref05_Mean.f (k + 1) a0) := by
  intro a0 k
  have ih0 := tillerref05_Mean.mono_l k
  unfold tillerref05_Mean.f
  repeat' first
      | (with_reducible exact ih0 _ _ _)
      | (with_reducible exact tillerref03_Grow.mono _ _ _)
      | (with_reducible exact LeO.refl _)
      | (with_reducible exact LeO.none _)
      | (with_reducible refine LeO.ite ?_ ?_)
      | (with_reducible refine LeO.bind ?_ (fun _ => ?_))
      | exact ih0 _ _ _
      | exact tillerref03_Grow.mono _ _ _
      | exact LeO.none _
      | refine LeO.ite ?_ ?_
      | refine LeO.bind ?_ (fun _ => ?_)
set_option maxHeartbeats 8000000 in
set_option maxRecDepth 100000 in
theorem tillerref05_Mean.calls (k : Nat) (A0 : Option Addr) (c0 : Nat) (l0 : List Int) (r : Int) (w : World) (hr0 : Kd.C (Kd.int .i32) w A0 l0.length l0) (hc0 : l0.length ≤ c0) (h : tillerref05_Mean.f k l0 = some r) :
    Calls Try.prog 22 #[.slice A0 l0.length c0] w fun e w' => e = .returned (.int .i32 r) ∧ Drawn0 w w' := by
  have HR0 := Aside0.mk hr0
  have HC0 := Aside0.mk hc0
  clear hr0 hc0
  have H : (tillerref05_Mean.l0 k l0 0 0) = some r := h
  clear h
  have H' := Aside0.mk H
  clear H
  go_enter Try.func22, Try.ntmps22
  go_wp2
  repeat (go_quiet (fail); try go_wp2)
  go_loopg [3, 4] k (fun kq v3 v4 w' => ∃ (x3_1 : Int) (x4_1 : Int), v3 = .int .i64 x3_1 ∧ v4 = .int .i64 x4_1 ∧ Aside0 (tillerref05_Mean.l0 kq l0 x3_1 x4_1 = some r) ∧ Aside0 (kq ≤ k) ∧ Drawn0 w w')
  case atStart => exact ⟨(0), (0), (by first | rfl | (simp; done) | (simp [*]; done)), (by first | rfl | (simp; done) | (simp [*]; done)), H', ⟨Nat.le_refl _⟩, by repeat (first | exact Drawn0.refl _ | apply Drawn0.step)⟩
  case round =>
    clear H'
    obtain ⟨x3_1, x4_1, rfl, rfl, HA, HK1, ⟨m1, rfl⟩⟩ := hrel
    cases gk with
    | zero => exact absurd HA.out (by simp [tillerref05_Mean.l0])
    | succ k1 =>
      have H := HA.out
      clear HA
      simp only [tillerref05_Mean.l0] at H
      by_cases c2 : x4_1 < (l0.length : Int)
      · rw [if_pos c2] at H
        have c2b0 : decide (x4_1 < (l0.length : Int)) = true := decide_eq_true c2
        clear c2
        by_cases c3 : 0 ≤ x4_1
        · rw [if_pos c3] at H
          have c3b0 : decide (0 ≤ x4_1) = true := decide_eq_true c3
          clear c3
          replace H := Option.bind_eq_some_iff.mp H
          obtain ⟨t302, A40, H⟩ := H
          replace H : (tillerref05_Mean.l0 k1 l0 t302 (wrap64 (x4_1 + 1))) = some r := H
          have A4 := Aside0.mk A40
          clear A40
          have H' := Aside0.mk H
          clear H
          have p300 : 0 ≤ (x4_1 : Int) := of_decide_eq_true (by first | (with_reducible assumption) | assumption)
          have q300 : x4_1 < (l0.length : Int) := of_decide_eq_true (by first | (with_reducible assumption) | assumption)
          obtain ⟨ad300, e300, hx300_0⟩ := Kd.at_int HR0.out x4_1 p300 q300
          cases e300
          replace p300 := eq_true p300
          replace q300 := eq_true q300
          have p301 : 0 ≤ (x4_1 : Int) := of_decide_eq_true (by first | (with_reducible assumption) | assumption)
          have q301 : x4_1 < (l0.length : Int) := of_decide_eq_true (by first | (with_reducible assumption) | assumption)
          obtain ⟨ad301, e301, hx301_0⟩ := Kd.at_int HR0.out x4_1 p301 q301
          obtain rfl : ad300 = ad301 := (by injection e301)
          replace p301 := eq_true p301
          replace q301 := eq_true q301
          go_wp2_with (first | (go_at_call 37; (with_reducible refine (tillerref03_Grow.calls k1 x3_1 (wrap64 ((wrap64 (rd l0 x4_1)) * (wrap64 (rd l0 x4_1)))) t302 _ A4.out).mono ?_); rintro e w' ⟨rfl, ⟨nd, rfl⟩⟩; (try first | exact ⟨rfl, _, World.drewN_drewN _ _ _⟩ | exact ⟨rfl, _, Eq.trans (World.drewN_drewN _ _ _) (congrArg (World.drewN _) (Nat.add_assoc _ _ _))⟩)))
          repeat (go_quiet (first | (go_at_call 37; (with_reducible refine (tillerref03_Grow.calls k1 x3_1 (wrap64 ((wrap64 (rd l0 x4_1)) * (wrap64 (rd l0 x4_1)))) t302 _ A4.out).mono ?_); rintro e w' ⟨rfl, ⟨nd, rfl⟩⟩; (try first | exact ⟨rfl, _, World.drewN_drewN _ _ _⟩ | exact ⟨rfl, _, Eq.trans (World.drewN_drewN _ _ _) (congrArg (World.drewN _) (Nat.add_assoc _ _ _))⟩))); try go_wp2_with (first | (go_at_call 37; (with_reducible refine (tillerref03_Grow.calls k1 x3_1 (wrap64 ((wrap64 (rd l0 x4_1)) * (wrap64 (rd l0 x4_1)))) t302 _ A4.out).mono ?_); rintro e w' ⟨rfl, ⟨nd, rfl⟩⟩; (try first | exact ⟨rfl, _, World.drewN_drewN _ _ _⟩ | exact ⟨rfl, _, Eq.trans (World.drewN_drewN _ _ _) (congrArg (World.drewN _) (Nat.add_assoc _ _ _))⟩))))
          go_roundg k1
          case measure => have := HK1.out; omega
          case rel => exact ⟨(t302), (wrap64 (x4_1 + 1)), (by first | rfl | (simp; done) | (simp [*]; done)), (by first | rfl | (simp; done) | (simp [*]; done)), H', ⟨by have := HK1.out; omega⟩, by repeat (first | exact Drawn0.refl _ | apply Drawn0.step)⟩
        · rw [if_neg c3] at H
          exact absurd H (by simp)
      · rw [if_neg c2] at H
        have c2b0 : decide (x4_1 < (l0.length : Int)) = false := decide_eq_false c2
        clear c2
        by_cases c5 : (l0.length : Int) = 0
        · rw [if_pos c5] at H
          exact absurd H (by simp)
        · rw [if_neg c5] at H
          have c5b0 : ((l0.length : Int) == 0) = false := beq_eq_false_iff_ne.mpr c5
          have c5b1 : ((l0.length : Int) != 0) = true := bne_iff_ne.mpr c5
          have c5b2 : ¬ (l0 = []) := fun h_ => c5 (by rw [h_]; rfl)
          replace H := Option.bind_eq_some_iff.mp H
          obtain ⟨t303, A60, H⟩ := H
          replace H : (some t303) = some r := H
          have A6 := Aside0.mk A60
          clear A60
          obtain rfl := Option.some.inj H
          go_wp2_with (first | (go_at_call 29; (with_reducible refine (tillerref01_Sat.calls (wrap64 (Int.tdiv (wrap64 (Int.tdiv x3_1 (l0.length : Int))) 65536)) t303 _ A6.out).mono ?_); rintro e w' ⟨rfl, ⟨nd, rfl⟩⟩; (try first | exact ⟨rfl, _, World.drewN_drewN _ _ _⟩ | exact ⟨rfl, _, Eq.trans (World.drewN_drewN _ _ _) (congrArg (World.drewN _) (Nat.add_assoc _ _ _))⟩)))
          repeat (go_quiet (first | (go_at_call 29; (with_reducible refine (tillerref01_Sat.calls (wrap64 (Int.tdiv (wrap64 (Int.tdiv x3_1 (l0.length : Int))) 65536)) t303 _ A6.out).mono ?_); rintro e w' ⟨rfl, ⟨nd, rfl⟩⟩; (try first | exact ⟨rfl, _, World.drewN_drewN _ _ _⟩ | exact ⟨rfl, _, Eq.trans (World.drewN_drewN _ _ _) (congrArg (World.drewN _) (Nat.add_assoc _ _ _))⟩))); try go_wp2_with (first | (go_at_call 29; (with_reducible refine (tillerref01_Sat.calls (wrap64 (Int.tdiv (wrap64 (Int.tdiv x3_1 (l0.length : Int))) 65536)) t303 _ A6.out).mono ?_); rintro e w' ⟨rfl, ⟨nd, rfl⟩⟩; (try first | exact ⟨rfl, _, World.drewN_drewN _ _ _⟩ | exact ⟨rfl, _, Eq.trans (World.drewN_drewN _ _ _) (congrArg (World.drewN _) (Nat.add_assoc _ _ _))⟩))))
          go_ret
          exact ⟨by first | rfl | (simp; done) | (simp [*]; done), by repeat (first | exact Drawn0.refl _ | apply Drawn0.step)⟩

/-! ### tillerref02_Root: function 44 -/
def tillerref02_Root.l0 : Nat → Int → Int → Int → Option (Int)
  | 0, _, _, _ => none
  | k + 1, x0, x3, x4 => if x4 > 0 then (if (IntKind.u64.wrap ((IntKind.u64.wrap (x3 + x4)) * (IntKind.u64.wrap (x3 + x4)))) ≤ x0 then (tillerref02_Root.l0 k x0 (IntKind.u64.wrap (x3 + x4)) (IntKind.u64.wrap (Int.tdiv x4 2))) else (tillerref02_Root.l0 k x0 x3 (IntKind.u64.wrap (Int.tdiv x4 2)))) else (some x3)
def tillerref02_Root.f (k : Nat) (a0 : Int) : Option (Int) := tillerref02_Root.l0 k a0 0 2147483648
theorem tillerref02_Root.mono_l : ∀ k, (∀ y0 y1 y2, LeO (tillerref02_Root.l0 k y0 y1 y2) (tillerref02_Root.l0 (k + 1) y0 y1 y2))
  | 0 => fun _ _ _ r h => by simp [tillerref02_Root.l0] at h
  | k + 1 => by
    have ih0 := tillerref02_Root.mono_l k
    · intro y0 y1 y2
      unfold tillerref02_Root.l0
      repeat' first
      | (with_reducible exact ih0 _ _ _)
      | (with_reducible exact LeO.refl _)
      | (with_reducible exact LeO.none _)
      | (with_reducible refine LeO.ite ?_ ?_)
      | (with_reducible refine LeO.bind ?_ (fun _ => ?_))
      | exact ih0 _ _ _
      | exact LeO.none _
      | refine LeO.ite ?_ ?_
      | refine LeO.bind ?_ (fun _ => ?_)
theorem tillerref02_Root.mono : ∀ a0 k, LeO (tillerref02_Root.f k a0) (tillerref02_Root.f (k + 1) a0) := by
  intro a0 k
  have ih0 := tillerref02_Root.mono_l k
  unfold tillerref02_Root.f
  repeat' first
      | (with_reducible exact ih0 _ _ _)
      | (with_reducible exact LeO.refl _)
      | (with_reducible exact LeO.none _)
      | (with_reducible refine LeO.ite ?_ ?_)
      | (with_reducible refine LeO.bind ?_ (fun _ => ?_))
      | exact ih0 _ _ _
      | exact LeO.none _
      | refine LeO.ite ?_ ?_
      | refine LeO.bind ?_ (fun _ => ?_)
set_option maxHeartbeats 8000000 in
set_option maxRecDepth 100000 in
theorem tillerref02_Root.calls (k : Nat) (a0 : Int) (r : Int) (w : World) (h : tillerref02_Root.f k a0 = some r) :
    Calls Try.prog 44 #[.int .u64 a0] w fun e w' => e = .returned (.int .u64 r) ∧ Drawn0 w w' := by
  have H : (tillerref02_Root.l0 k a0 0 2147483648) = some r := h
  clear h
  have H' := Aside0.mk H
  clear H
  go_enter Try.func44, Try.ntmps44
  go_wp2
  go_loopg [3, 4] k (fun kq v3 v4 w' => ∃ (x3_1 : Int) (x4_1 : Int), v3 = .int .u64 x3_1 ∧ v4 = .int .u64 x4_1 ∧ Aside0 (tillerref02_Root.l0 kq a0 x3_1 x4_1 = some r) ∧ Aside0 (kq ≤ k) ∧ Drawn0 w w')
  case atStart => exact ⟨(0), (2147483648), (by first | rfl | (simp; done) | (simp [*]; done)), (by first | rfl | (simp; done) | (simp [*]; done)), H', ⟨Nat.le_refl _⟩, by repeat (first | exact Drawn0.refl _ | apply Drawn0.step)⟩
  case round =>
    clear H'
    obtain ⟨x3_1, x4_1, rfl, rfl, HA, HK1, ⟨m1, rfl⟩⟩ := hrel
    cases gk with
    | zero => exact absurd HA.out (by simp [tillerref02_Root.l0])
    | succ k1 =>
      have H := HA.out
      clear HA
      simp only [tillerref02_Root.l0] at H
      by_cases c2 : x4_1 > 0
      · rw [if_pos c2] at H
        have c2b0 : decide (0 < x4_1) = true := decide_eq_true c2
        clear c2
        by_cases c3 : (IntKind.u64.wrap ((IntKind.u64.wrap (x3_1 + x4_1)) * (IntKind.u64.wrap (x3_1 + x4_1)))) ≤ a0
        · rw [if_pos c3] at H
          have c3b0 : decide ((IntKind.u64.wrap ((IntKind.u64.wrap (x3_1 + x4_1)) * (IntKind.u64.wrap (x3_1 + x4_1)))) ≤ a0) = true := decide_eq_true c3
          clear c3
          have H' := Aside0.mk H
          clear H
          go_wp2
          go_roundg k1
          case measure => have := HK1.out; omega
          case rel => exact ⟨(IntKind.u64.wrap (x3_1 + x4_1)), (IntKind.u64.wrap (Int.tdiv x4_1 2)), (by first | rfl | (simp; done) | (simp [*]; done)), (by first | rfl | (simp; done) | (simp [*]; done)), H', ⟨by have := HK1.out; omega⟩, by repeat (first | exact Drawn0.refl _ | apply Drawn0.step)⟩
        · rw [if_neg c3] at H
          have c3b0 : decide ((IntKind.u64.wrap ((IntKind.u64.wrap (x3_1 + x4_1)) * (IntKind.u64.wrap (x3_1 + x4_1)))) ≤ a0) = false := decide_eq_false c3
          clear c3
          have H' := Aside0.mk H
          clear H
          go_wp2
          go_roundg k1
          case measure => have := HK1.out; omega
          case rel => exact ⟨(x3_1), (IntKind.u64.wrap (Int.tdiv x4_1 2)), (by first | rfl | (simp; done) | (simp [*]; done)), (by first | rfl | (simp; done) | (simp [*]; done)), H', ⟨by have := HK1.out; omega⟩, by repeat (first | exact Drawn0.refl _ | apply Drawn0.step)⟩
      · rw [if_neg c2] at H
        have c2b0 : decide (0 < x4_1) = false := decide_eq_false c2
        clear c2
        obtain rfl := Option.some.inj H
        go_wp2
        go_ret
        exact ⟨by first | rfl | (simp; done) | (simp [*]; done), by repeat (first | exact Drawn0.refl _ | apply Drawn0.step)⟩

/-! ### tillerref02_Inverse: function 38 -/
def tillerref02_Inverse.f (k : Nat) (a0 : Int) : Option (Int) := if a0 < 1 then (some 2147483647) else (if (IntKind.u64.wrap (a0)) = 0 then (none) else ((tillerref02_Root.f k (IntKind.u64.wrap (Int.tdiv (281474976710656 : Int) (IntKind.u64.wrap (a0))))).bind fun t304 => (some (wrap32 (t304)))))
theorem tillerref02_Inverse.mono : ∀ a0 k, LeO (tillerref02_Inverse.f k a0) (tillerref02_Inverse.f (k + 1) a0) := by
  intro a0 k
  unfold tillerref02_Inverse.f
  repeat' first
      | (with_reducible exact tillerref02_Root.mono _ _)
      | (with_reducible exact LeO.refl _)
      | (with_reducible exact LeO.none _)
      | (with_reducible refine LeO.ite ?_ ?_)
      | (with_reducible refine LeO.bind ?_ (fun _ => ?_))
      | exact tillerref02_Root.mono _ _
      | exact LeO.none _
      | refine LeO.ite ?_ ?_
      | refine LeO.bind ?_ (fun _ => ?_)
set_option maxHeartbeats 8000000 in
set_option maxRecDepth 100000 in
theorem tillerref02_Inverse.calls (k : Nat) (a0 : Int) (r : Int) (w : World) (h : tillerref02_Inverse.f k a0 = some r) :
    Calls Try.prog 38 #[.int .i32 a0] w fun e w' => e = .returned (.int .i32 r) ∧ Drawn0 w w' := by
  have H : (if a0 < 1 then (some 2147483647) else (if (IntKind.u64.wrap (a0)) = 0 then (none) else ((tillerref02_Root.f k (IntKind.u64.wrap (Int.tdiv (281474976710656 : Int) (IntKind.u64.wrap (a0))))).bind fun t304 => (some (wrap32 (t304)))))) = some r := h
  clear h
  by_cases c2 : a0 < 1
  · rw [if_pos c2] at H
    have c2b0 : decide (a0 < 1) = true := decide_eq_true c2
    clear c2
    obtain rfl := Option.some.inj H
    go_enter Try.func38, Try.ntmps38
    go_wp2
    go_ret
    exact ⟨by first | rfl | (simp; done) | (simp [*]; done), by repeat (first | exact Drawn0.refl _ | apply Drawn0.step)⟩
  · rw [if_neg c2] at H
    have c2b0 : decide (a0 < 1) = false := decide_eq_false c2
    clear c2
    by_cases c3 : (IntKind.u64.wrap (a0)) = 0
    · rw [if_pos c3] at H
      exact absurd H (by simp)
    · rw [if_neg c3] at H
      have c3b0 : ((IntKind.u64.wrap (a0)) == 0) = false := beq_eq_false_iff_ne.mpr c3
      have c3b1 : ((IntKind.u64.wrap (a0)) != 0) = true := bne_iff_ne.mpr c3
      replace H := Option.bind_eq_some_iff.mp H
      obtain ⟨t304, A40, H⟩ := H
      replace H : (some (wrap32 (t304))) = some r := H
      have A4 := Aside0.mk A40
      clear A40
      obtain rfl := Option.some.inj H
      go_enter Try.func38, Try.ntmps38
      go_wp2_with (first | ((with_reducible refine gate_callee (f := 44) rfl ?_); refine goesL_ (some 8) rfl rfl Try.func44 (by kernel_rfl) rfl #[.int .u64 (IntKind.u64.wrap (Int.tdiv (281474976710656 : Int) (IntKind.u64.wrap (a0))))] rfl (by (try simp only [List.map_toArray, List.map_cons, List.map_nil]); first | done | rfl | (simp only [List.length_drop, List.length_take]; rfl)) ?_; (with_reducible refine (tillerref02_Root.calls k (IntKind.u64.wrap (Int.tdiv (281474976710656 : Int) (IntKind.u64.wrap (a0)))) t304 _ A4.out).mono ?_); rintro e w' ⟨rfl, ⟨nd, rfl⟩⟩; refine ⟨_, rfl, ?_⟩))
      go_ret
      exact ⟨by first | rfl | (simp; done) | (simp [*]; done), by repeat (first | exact Drawn0.refl _ | apply Drawn0.step)⟩

/-! ### tillerref01_Mul: function 39 -/
def tillerref01_Mul.f (k : Nat) (a0 : Int) (a1 : Int) : Option (Int) := (tillerref01_Round.f k (wrap64 ((wrap64 (a0)) * (wrap64 (a1)))) 65536).bind fun t305 => ((tillerref01_Sat.f t305).bind fun t306 => (some t306))
theorem tillerref01_Mul.mono : ∀ a0 a1 k, LeO (tillerref01_Mul.f k a0 a1) (tillerref01_Mul.f (k + 1) a0 a1) := by
  intro a0 a1 k
  unfold tillerref01_Mul.f
  repeat' first
      | (with_reducible exact tillerref01_Round.mono _ _ _)
      | (with_reducible exact LeO.refl _)
      | (with_reducible exact LeO.none _)
      | (with_reducible refine LeO.ite ?_ ?_)
      | (with_reducible refine LeO.bind ?_ (fun _ => ?_))
      | exact tillerref01_Round.mono _ _ _
      | exact LeO.none _
      | refine LeO.ite ?_ ?_
      | refine LeO.bind ?_ (fun _ => ?_)
set_option maxHeartbeats 8000000 in
set_option maxRecDepth 100000 in
theorem tillerref01_Mul.calls (k : Nat) (a0 : Int) (a1 : Int) (r : Int) (w : World) (h : tillerref01_Mul.f k a0 a1 = some r) :
    Calls Try.prog 39 #[.int .i32 a0, .int .i32 a1] w fun e w' => e = .returned (.int .i32 r) ∧ Drawn0 w w' := by
  have H : ((tillerref01_Round.f k (wrap64 ((wrap64 (a0)) * (wrap64 (a1)))) 65536).bind fun t305 => ((tillerref01_Sat.f t305).bind fun t306 => (some t306))) = some r := h
  clear h
  replace H := Option.bind_eq_some_iff.mp H
  obtain ⟨t305, A30, H⟩ := H
  replace H : ((tillerref01_Sat.f t305).bind fun t306 => (some t306)) = some r := H
  have A3 := Aside0.mk A30
  clear A30
  replace H := Option.bind_eq_some_iff.mp H
  obtain ⟨t306, A40, H⟩ := H
  replace H : (some t306) = some r := H
  have A4 := Aside0.mk A40
  clear A40
  obtain rfl := Option.some.inj H
  go_enter Try.func39, Try.ntmps39
  go_wp2_with (first | ((with_reducible refine gate_callee (f := 42) rfl ?_); refine goesL_ (some 10) rfl rfl Try.func42 (by kernel_rfl) rfl #[.int .i64 (wrap64 ((wrap64 (a0)) * (wrap64 (a1)))), .int .i64 65536] rfl (by (try simp only [List.map_toArray, List.map_cons, List.map_nil]); first | done | rfl | (simp only [List.length_drop, List.length_take]; rfl)) ?_; (with_reducible refine (tillerref01_Round.calls k (wrap64 ((wrap64 (a0)) * (wrap64 (a1)))) 65536 t305 _ A3.out).mono ?_); rintro e w' ⟨rfl, ⟨nd, rfl⟩⟩; refine ⟨_, rfl, ?_⟩) | ((with_reducible refine gate_callee (f := 29) rfl ?_); refine goesL_ (some 11) rfl rfl Try.func29 (by kernel_rfl) rfl #[.int .i64 t305] rfl (by (try simp only [List.map_toArray, List.map_cons, List.map_nil]); first | done | rfl | (simp only [List.length_drop, List.length_take]; rfl)) ?_; (with_reducible refine (tillerref01_Sat.calls t305 t306 _ A4.out).mono ?_); rintro e w' ⟨rfl, ⟨nd, rfl⟩⟩; refine ⟨_, rfl, ?_⟩))
  go_ret
  exact ⟨by first | rfl | (simp; done) | (simp [*]; done), by repeat (first | exact Drawn0.refl _ | apply Drawn0.step)⟩

/-! ### tillerref05_Norm: function 23 -/
def tillerref05_Norm.l0 : Nat → List Int → List Int → Int → List Int → Int → Option (List Int)
  | 0, _, _, _, _, _ => none
  | k + 1, x0, x1, x5, x6, x7 => if x7 < (x0.length : Int) then (if 0 ≤ x7 then ((tillerref01_Mul.f k (rd x0 x7) x5).bind fun t314 => (if x7 < (x1.length : Int) then ((tillerref01_Mul.f k t314 (rd x1 x7)).bind fun t316 => (if x6.length < 35184372088832 then (tillerref05_Norm.l0 k x0 x1 x5 (x6 ++ [t316]) (wrap64 (x7 + 1))) else (none))) else (none))) else (none)) else (some x6)
def tillerref05_Norm.f (k : Nat) (l0 : List Int) (l1 : List Int) : Option (List Int) := (tillerref05_Mean.f k l0).bind fun t307 => ((tillerref01_Sat.f (wrap64 ((wrap64 (t307)) + 1))).bind fun t308 => ((tillerref02_Inverse.f k t308).bind fun t309 => (tillerref05_Norm.l0 k l0 l1 t309 (([] : List Int)) 0)))
theorem tillerref05_Norm.mono_l : ∀ k, (∀ y0 y1 y2 y3 y4, LeO (tillerref05_Norm.l0 k y0 y1 y2 y3 y4) (tillerref05_Norm.l0 (k + 1) y0 y1 y2 y3 y4))
  | 0 => fun _ _ _ _ _ r h => by simp [tillerref05_Norm.l0] at h
  | k + 1 => by
    have ih0 := tillerref05_Norm.mono_l k
    · intro y0 y1 y2 y3 y4
      unfold tillerref05_Norm.l0
      repeat' first
      | (with_reducible exact ih0 _ _ _ _ _)
      | (with_reducible exact tillerref01_Mul.mono _ _ _)
      | (with_reducible exact tillerref02_Inverse.mono _ _)
      | (with_reducible exact tillerref05_Mean.mono _ _)
      | (with_reducible exact LeO.refl _)
      | (with_reducible exact LeO.none _)
      | (with_reducible refine LeO.ite ?_ ?_)
      | (with_reducible refine LeO.bind ?_ (fun _ => ?_))
      | exact ih0 _ _ _ _ _
      | exact tillerref01_Mul.mono _ _ _
      | exact tillerref02_Inverse.mono _ _
      | exact tillerref05_Mean.mono _ _
      | exact LeO.none _
      | refine LeO.ite ?_ ?_
      | refine LeO.bind ?_ (fun _ => ?_)
theorem tillerref05_Norm.mono : ∀ a0 a1 k, LeO (tillerref05_Norm.f k a0 a1) (tillerref05_Norm.f (k + 1) a0 a1) := by
  intro a0 a1 k
  have ih0 := tillerref05_Norm.mono_l k
  unfold tillerref05_Norm.f
  repeat' first
      | (with_reducible exact ih0 _ _ _ _ _)
      | (with_reducible exact tillerref01_Mul.mono _ _ _)
      | (with_reducible exact tillerref02_Inverse.mono _ _)
      | (with_reducible exact tillerref05_Mean.mono _ _)
      | (with_reducible exact LeO.refl _)
      | (with_reducible exact LeO.none _)
      | (with_reducible refine LeO.ite ?_ ?_)
      | (with_reducible refine LeO.bind ?_ (fun _ => ?_))
      | exact ih0 _ _ _ _ _
      | exact tillerref01_Mul.mono _ _ _
      | exact tillerref02_Inverse.mono _ _
      | exact tillerref05_Mean.mono _ _
      | exact LeO.none _
      | refine LeO.ite ?_ ?_
      | refine LeO.bind ?_ (fun _ => ?_)
def tillerref05_Norm.T6 : Bool × List (List Nat × List Nat) := (true, [([], []), ([], []), ([], []), ([1, 2], [1, 2]), ([3], [3]), ([], []), ([4, 5], [4, 5]), ([], []), ([], []), ([7, 8], [7, 8]), ([9], [9]), ([6, 10, 6], [6, 10]), ([11], [11]), ([0, 12, 11], [0, 12]), ([13, 13, 0, 1, 2, 3, 4, 5, 6, 7, 8, 9, 10, 11, 12, 13], [0, 13])])
def tillerref05_Norm.B6 : List Nat := [0, 0, 0, 6, 14, 0, 62, 0, 0, 384, 896, 2046, 4094, 8191, 16383]
theorem tillerref05_Norm.tab6 : rtab .any (opsOf Try.f23 6) = tillerref05_Norm.T6 := by kernel_rfl
theorem tillerref05_Norm.bits6 : waitsOk tillerref05_Norm.T6.2 tillerref05_Norm.B6 = true := by kernel_rfl
set_option maxHeartbeats 8000000 in
set_option maxRecDepth 100000 in
theorem tillerref05_Norm.calls (k : Nat) (A0 : Option Addr) (c0 : Nat) (l0 : List Int) (A1 : Option Addr) (c1 : Nat) (l1 : List Int) (r : List Int) (w : World) (hr0 : Kd.C (Kd.int .i32) w A0 l0.length l0) (hc0 : l0.length ≤ c0) (hr1 : Kd.C (Kd.int .i32) w A1 l1.length l1) (hc1 : l1.length ≤ c1) (h : tillerref05_Norm.f k l0 l1 = some r) :
    Calls Try.prog 23 #[.slice A0 l0.length c0, .slice A1 l1.length c1] w fun e w' => ∃ v0_ : Value, e = .returned (v0_) ∧ Kd.R (Kd.int .i32) 32 w' w.heap.size (fun _ => True) v0_ r ∧ Below w.heap.size w w' := by
  have HR0 := Aside0.mk hr0
  have HC0 := Aside0.mk hc0
  clear hr0 hc0
  have HR1 := Aside0.mk hr1
  have HC1 := Aside0.mk hc1
  clear hr1 hc1
  have HB := Aside0.mk (Below.refl w.heap.size w)
  have H : ((tillerref05_Mean.f k l0).bind fun t307 => ((tillerref01_Sat.f (wrap64 ((wrap64 (t307)) + 1))).bind fun t308 => ((tillerref02_Inverse.f k t308).bind fun t309 => (tillerref05_Norm.l0 k l0 l1 t309 (([] : List Int)) 0)))) = some r := h
  clear h
  replace H := Option.bind_eq_some_iff.mp H
  obtain ⟨t307, A30, H⟩ := H
  replace H : ((tillerref01_Sat.f (wrap64 ((wrap64 (t307)) + 1))).bind fun t308 => ((tillerref02_Inverse.f k t308).bind fun t309 => (tillerref05_Norm.l0 k l0 l1 t309 (([] : List Int)) 0))) = some r := H
  have A3 := Aside0.mk A30
  clear A30
  replace H := Option.bind_eq_some_iff.mp H
  obtain ⟨t308, A40, H⟩ := H
  replace H : ((tillerref02_Inverse.f k t308).bind fun t309 => (tillerref05_Norm.l0 k l0 l1 t309 (([] : List Int)) 0)) = some r := H
  have A4 := Aside0.mk A40
  clear A40
  replace H := Option.bind_eq_some_iff.mp H
  obtain ⟨t309, A50, H⟩ := H
  replace H : (tillerref05_Norm.l0 k l0 l1 t309 (([] : List Int)) 0) = some r := H
  have A5 := Aside0.mk A50
  clear A50
  obtain ⟨y310, hy310⟩ : ∃ y_ : List Int, y_ = (([] : List Int)) := ⟨_, rfl⟩
  replace H : (tillerref05_Norm.l0 k l0 l1 t309 y310 0) = some r := by first | (rw [hy310]; with_reducible exact H) | (have H2_ := (Option.bind_some _ _).symm.trans H; rw [hy310]; with_reducible exact H2_) | (have H2_ := (Option.bind_some _ _).symm.trans H; with_reducible exact H2_) | with_reducible exact H | (rw [hy310]; exact H) | exact H
  have Ny310 := Aside0.mk hy310
  clear hy310
  have H' := Aside0.mk H
  clear H
  go_enter Try.func23, Try.ntmps23
  go_wp2_with (first | ((with_reducible refine gate_callee (f := 22) rfl ?_); refine goesL_ (some 9) rfl rfl Try.func22 (by kernel_rfl) rfl #[.slice A0 l0.length c0] rfl (by (try simp only [List.map_toArray, List.map_cons, List.map_nil]); first | done | rfl | (simp only [List.length_drop, List.length_take]; rfl)) ?_; (with_reducible refine (tillerref05_Mean.calls k _ _ l0 t307 _ ?side1 ?side2 A3.out).mono ?_); (case side1 => repeat (first | exact HR0.out | (with_reducible refine Kd.C_alloc ?_ _) | (with_reducible refine Kd.C_drewN ?_ _) | (with_reducible refine Kd.C_drew ?_))); (case side2 => exact HC0.out); rintro e w' ⟨rfl, ⟨nd, rfl⟩⟩; refine ⟨_, rfl, ?_⟩) | ((with_reducible refine gate_callee (f := 29) rfl ?_); refine goesL_ (some 12) rfl rfl Try.func29 (by kernel_rfl) rfl #[.int .i64 (wrap64 ((wrap64 (t307)) + 1))] rfl (by (try simp only [List.map_toArray, List.map_cons, List.map_nil]); first | done | rfl | (simp only [List.length_drop, List.length_take]; rfl)) ?_; (with_reducible refine (tillerref01_Sat.calls (wrap64 ((wrap64 (t307)) + 1)) t308 _ A4.out).mono ?_); rintro e w' ⟨rfl, ⟨nd, rfl⟩⟩; refine ⟨_, rfl, ?_⟩) | ((with_reducible refine gate_callee (f := 38) rfl ?_); refine goesL_ (some 13) rfl rfl Try.func38 (by kernel_rfl) rfl #[.int .i32 t308] rfl (by (try simp only [List.map_toArray, List.map_cons, List.map_nil]); first | done | rfl | (simp only [List.length_drop, List.length_take]; rfl)) ?_; (with_reducible refine (tillerref02_Inverse.calls k t308 t309 _ A5.out).mono ?_); rintro e w' ⟨rfl, ⟨nd, rfl⟩⟩; refine ⟨_, rfl, ?_⟩) | ((with_reducible refine gate_dst (N := 14) rfl ?_); refine Kd.R_lit (Kd.int .i32) _ 32 ?hg (N := 14) ?hd (xs := ([] : List Int)) (inner := []) (ok := fun _ => True) (okp := fun _ => True) ?hr ?hp (fun _ hk => hk) trivial (Below.refl _ _) (Nat.le_refl _) (by simp) ?_; (case hd => rfl); (case hg => rfl); (case hr => first | (go_simp; done) | (go_simp; rfl)); (case hp => exact (Reps.none _ _)); intro v311 w6 ho7 hb hg_ hnew_; clear hg_ hnew_; (first | rw [← Ny310.out] at ho7 | (simp only [Int.reduceToNat] at ho7; rw [← Ny310.out] at ho7)); have n0_ := Aside0.mk (Kd.R_lower ho7 (below_size (by repeat (first | (with_reducible first | exact HB.out | apply below_alloc | apply pw_below_drewN | apply below_drew1) | exact HB.out)))); have n1_ := Aside0.mk (below_step (by repeat (first | (with_reducible first | exact HB.out | apply below_alloc | apply pw_below_drewN | apply below_drew1) | exact HB.out)) hb); clear HB; have HO312 := n0_; have HB := n1_; clear n0_ n1_; clear hb ho7))
  go_loopg [6, 7] k (fun kq v6 v7 w' => ∃ (x6_1 : List Int) (x7_1 : Int), v7 = .int .i64 x7_1 ∧ Aside0 (tillerref05_Norm.l0 kq l0 l1 t309 x6_1 x7_1 = some r) ∧ Aside0 (kq ≤ k) ∧ Aside0 (Kd.R (Kd.int .i32) 32 w' w.heap.size (fun _ => True) v6 x6_1) ∧ Aside0 (Below w.heap.size w w'))
  case atStart => exact ⟨(y310), (0), (by first | rfl | (simp; done) | (simp [*]; done)), H', ⟨Nat.le_refl _⟩, ⟨by (with_reducible repeat (first | apply Kd.R_alloc | apply Kd.R_drewN | apply Kd.R_drew)); exact HO312.out⟩, ⟨by repeat (first | (with_reducible first | exact HB.out | apply below_alloc | apply pw_below_drewN | apply below_drew1) | exact HB.out)⟩⟩
  case round =>
    clear H'
    try clear c1
    try clear c2
    try clear p2
    try clear c3
    try clear p6
    obtain ⟨x6_1, x7_1, rfl, HA, HK1, HO_6, HB⟩ := hrel
    cases gk with
    | zero => exact absurd HA.out (by simp [tillerref05_Norm.l0])
    | succ k1 =>
      have H := HA.out
      clear HA
      simp only [tillerref05_Norm.l0] at H
      by_cases c8 : x7_1 < (l0.length : Int)
      · rw [if_pos c8] at H
        have c8b0 : decide (x7_1 < (l0.length : Int)) = true := decide_eq_true c8
        clear c8
        by_cases c9 : 0 ≤ x7_1
        · rw [if_pos c9] at H
          have c9b0 : decide (0 ≤ x7_1) = true := decide_eq_true c9
          clear c9
          replace H := Option.bind_eq_some_iff.mp H
          obtain ⟨t314, A100, H⟩ := H
          replace H : (if x7_1 < (l1.length : Int) then ((tillerref01_Mul.f k1 t314 (rd l1 x7_1)).bind fun t316 => (if x6_1.length < 35184372088832 then (tillerref05_Norm.l0 k1 l0 l1 t309 (x6_1 ++ [t316]) (wrap64 (x7_1 + 1))) else (none))) else (none)) = some r := H
          have A10 := Aside0.mk A100
          clear A100
          by_cases c11 : x7_1 < (l1.length : Int)
          · rw [if_pos c11] at H
            have c11b0 : decide (x7_1 < (l1.length : Int)) = true := decide_eq_true c11
            clear c11
            replace H := Option.bind_eq_some_iff.mp H
            obtain ⟨t316, A120, H⟩ := H
            replace H : (if x6_1.length < 35184372088832 then (tillerref05_Norm.l0 k1 l0 l1 t309 (x6_1 ++ [t316]) (wrap64 (x7_1 + 1))) else (none)) = some r := H
            have A12 := Aside0.mk A120
            clear A120
            by_cases c13 : x6_1.length < 35184372088832
            · rw [if_pos c13] at H
              have LMc13 := Aside0.mk c13
              clear c13
              obtain ⟨y317, hy317⟩ : ∃ y_ : List Int, y_ = (x6_1 ++ [t316]) := ⟨_, rfl⟩
              replace H : (tillerref05_Norm.l0 k1 l0 l1 t309 y317 (wrap64 (x7_1 + 1))) = some r := by first | (rw [hy317]; with_reducible exact H) | (have H2_ := (Option.bind_some _ _).symm.trans H; rw [hy317]; with_reducible exact H2_) | (have H2_ := (Option.bind_some _ _).symm.trans H; with_reducible exact H2_) | with_reducible exact H | (rw [hy317]; exact H) | exact H
              have Ny317 := Aside0.mk hy317
              clear hy317
              have H' := Aside0.mk H
              clear H
              try go_wp2
              have n0_ := Aside0.mk (Kd.R_drew HO_6.out)
              have n1_ := Aside0.mk (below_drew1 HB.out)
              clear HO_6
              clear HB
              have HO_6 := n0_
              have HB := n1_
              clear n0_ n1_
              have p313 : 0 ≤ (x7_1 : Int) := of_decide_eq_true (by first | (with_reducible assumption) | assumption)
              have q313 : x7_1 < (l0.length : Int) := of_decide_eq_true (by first | (with_reducible assumption) | assumption)
              obtain ⟨ad313, e313, hx313_0⟩ := Kd.at_int HR0.out x7_1 p313 q313
              have hw313_0 := hx313_0
              cases e313
              replace hx313_0 := (HB.out.cell (World.block_lt_of_cell? w _ hx313_0)).trans hx313_0
              replace p313 := eq_true p313
              replace q313 := eq_true q313
              have p315 : 0 ≤ (x7_1 : Int) := of_decide_eq_true (by first | (with_reducible assumption) | assumption)
              have q315 : x7_1 < (l1.length : Int) := of_decide_eq_true (by first | (with_reducible assumption) | assumption)
              obtain ⟨ad315, e315, hx315_0⟩ := Kd.at_int HR1.out x7_1 p315 q315
              have hw315_0 := hx315_0
              cases e315
              replace hx315_0 := (HB.out.cell (World.block_lt_of_cell? w _ hx315_0)).trans hx315_0
              replace p315 := eq_true p315
              replace q315 := eq_true q315
              refine start_ (n := 15) (S := fun w' => w'.cell? (ad313.add (x7_1).toNat) = some (.int .i32 (rd l0 x7_1)) ∧ w'.cell? (ad315.add (x7_1).toNat) = some (.int .i32 (rd l1 x7_1))) (ds := []) #[false, false, false, false, false, false, false, false, false, false, false, false, false, false, false] (by kernel_rfl) rfl rfl ⟨((HB.out.cell (World.block_lt_of_cell? w _ hw313_0)).trans hw313_0), ((HB.out.cell (World.block_lt_of_cell? w _ hw315_0)).trans hw315_0)⟩ (fun hHeld => ?_); refine with_tabW tillerref05_Norm.tab6 tillerref05_Norm.bits6 (fun HT_ HW_ => ?_)
              generalize wr.drew = w14 at HO_6 HB hx313_0 hx315_0 hHeld ⊢
              refine pure_ (i := 0) (N := some 21) (v := ?_) (a' := ?_) #[true, false, false, false, false, false, false, false, false, false, false, false, false, false, false] rfl rfl (any_of HT_.out (by kernel_rfl)) (fun _ _ _ h => h) (Or.inl ⟨by rfl, ?_⟩) ?_ ?_
              rotate_left
              · intro w'
                go_simp
                with_reducible rfl
              rotate_left
              · simp only [Act.put, List.setIfInBounds_toArray, List.set_cons_zero, List.set_cons_succ, i64_w, i32_w]
                rfl
              refine pure_ (i := 1) (N := some 22) (v := ?_) (a' := ?_) #[true, true, false, false, false, false, false, false, false, false, false, false, false, false, false] rfl rfl (any_of HT_.out (by kernel_rfl)) (fun _ _ _ h => h) (Or.inl ⟨by rfl, ?_⟩) ?_ ?_
              rotate_left
              · intro w'
                go_simp
                with_reducible rfl
              rotate_left
              · simp only [Act.put, List.setIfInBounds_toArray, List.set_cons_zero, List.set_cons_succ, i64_w, i32_w]
                rfl
              refine pure_ (i := 2) (N := some 23) (v := ?_) (a' := ?_) #[true, true, true, false, false, false, false, false, false, false, false, false, false, false, false] rfl rfl (any_of HT_.out (by kernel_rfl)) (fun _ _ _ h => h) (Or.inl ⟨by rfl, ?_⟩) ?_ ?_
              rotate_left
              · intro w'
                go_simp
                with_reducible rfl
              rotate_left
              · simp only [Act.put, List.setIfInBounds_toArray, List.set_cons_zero, List.set_cons_succ, i64_w, i32_w]
                rfl
              refine pure_ (i := 3) (N := some 24) (v := ?_) (a' := ?_) #[true, true, true, true, false, false, false, false, false, false, false, false, false, false, false] rfl rfl (any_of HT_.out (by kernel_rfl)) (fun _ _ _ h => h) (Or.inl ⟨by rfl, ?_⟩) ?_ ?_
              rotate_left
              · intro w'
                go_simp
                with_reducible rfl
              rotate_left
              · simp only [Act.put, List.setIfInBounds_toArray, List.set_cons_zero, List.set_cons_succ, i64_w, i32_w]
                rfl
              refine pure_ (i := 5) (N := some 26) (v := ?_) (a' := ?_) #[true, true, true, true, false, true, false, false, false, false, false, false, false, false, false] rfl rfl (any_of HT_.out (by kernel_rfl)) (fun _ _ _ h => h) (Or.inl ⟨by rfl, ?_⟩) ?_ ?_
              rotate_left
              · intro w'
                go_simp
                with_reducible rfl
              rotate_left
              · simp only [Act.put, List.setIfInBounds_toArray, List.set_cons_zero, List.set_cons_succ, i64_w, i32_w]
                rfl
              refine pure_ (i := 7) (N := some 28) (v := ?_) (a' := ?_) #[true, true, true, true, false, true, false, true, false, false, false, false, false, false, false] rfl rfl (any_of HT_.out (by kernel_rfl)) (fun _ _ _ h => h) (Or.inl ⟨by rfl, ?_⟩) ?_ ?_
              rotate_left
              · intro w'
                go_simp
                with_reducible rfl
              rotate_left
              · simp only [Act.put, List.setIfInBounds_toArray, List.set_cons_zero, List.set_cons_succ, i64_w, i32_w]
                rfl
              refine pure_ (i := 8) (N := some 29) (v := ?_) (a' := ?_) #[true, true, true, true, false, true, false, true, true, false, false, false, false, false, false] rfl rfl (any_of HT_.out (by kernel_rfl)) (fun _ _ _ h => h) (Or.inl ⟨by rfl, ?_⟩) ?_ ?_
              rotate_left
              · intro w'
                go_simp
                with_reducible rfl
              rotate_left
              · simp only [Act.put, List.setIfInBounds_toArray, List.set_cons_zero, List.set_cons_succ, i64_w, i32_w]
                rfl
              refine pure_ (i := 9) (N := some 30) (v := ?_) (a' := ?_) #[true, true, true, true, false, true, false, true, true, true, false, false, false, false, false] rfl rfl (any_of HT_.out (by kernel_rfl)) (fun _ _ _ h => h) (Or.inl ⟨by rfl, ?_⟩) ?_ ?_
              rotate_left
              · intro w'
                go_simp
                with_reducible rfl
              rotate_left
              · simp only [Act.put, List.setIfInBounds_toArray, List.set_cons_zero, List.set_cons_succ, i64_w, i32_w]
                rfl
              refine take_ (i := 4) (N := some 25) (v := ?_) (a' := ?_) #[true, true, true, true, true, true, false, true, true, true, false, false, false, false, false] rfl rfl (take_ofW HT_.out HW_.out (by kernel_rfl)) (fun _ _ _ h => h) (Or.inl ⟨by rfl, ?_⟩) hHeld ?_ ?_
              rotate_left
              · rintro w' ⟨s0, s1⟩
                go_simp
                with_reducible rfl
              rotate_left
              · simp only [Act.put, List.setIfInBounds_toArray, List.set_cons_zero, List.set_cons_succ, i64_w, i32_w]
                rfl
              refine take_ (i := 10) (N := some 31) (v := ?_) (a' := ?_) #[true, true, true, true, true, true, false, true, true, true, true, false, false, false, false] rfl rfl (take_ofW HT_.out HW_.out (by kernel_rfl)) (fun _ _ _ h => h) (Or.inl ⟨by rfl, ?_⟩) hHeld ?_ ?_
              rotate_left
              · rintro w' ⟨s0, s1⟩
                go_simp
                with_reducible rfl
              rotate_left
              · simp only [Act.put, List.setIfInBounds_toArray, List.set_cons_zero, List.set_cons_succ, i64_w, i32_w]
                rfl
              refine one_ (i := 6) (N := some 27) #[true, true, true, true, true, true, true, true, true, true, true, false, false, false, false] rfl rfl (one_of HT_.out (by kernel_rfl)) (by decide) (fun K hK => ?_)
              refine goes_ Try.func39 (by kernel_rfl) rfl #[.int .i32 (rd l0 x7_1), .int .i32 t309] (by rfl) rfl rfl (by (try simp only [List.map_toArray, List.map_cons, List.map_nil]); first | done | rfl | (simp only [List.length_drop, List.length_take]; rfl)) ?_
              with_reducible refine (tillerref01_Mul.calls k1 (rd l0 x7_1) t309 t314 _ A10.out).mono ?_
              rintro e w' ⟨rfl, ⟨nd, rfl⟩⟩
              refine ⟨_, rfl, ?_⟩
              refine hK.out _ _ ⟨((HB.out.cell (World.block_lt_of_cell? w _ hw313_0)).trans hw313_0), ((HB.out.cell (World.block_lt_of_cell? w _ hw315_0)).trans hw315_0)⟩ (fun hHeld => ?_)
              clear hK K
              refine norm_ (a' := ?_) ?_ ?_
              rotate_left
              · show Act.put _ (some 27) _ = _
                simp only [Act.put, List.setIfInBounds_toArray, List.set_cons_zero, List.set_cons_succ, i64_w, i32_w]
                rfl
              refine one_ (i := 11) (N := some 32) #[true, true, true, true, true, true, true, true, true, true, true, true, false, false, false] rfl rfl (one_of HT_.out (by kernel_rfl)) (by decide) (fun K hK => ?_)
              refine goes_ Try.func39 (by kernel_rfl) rfl #[.int .i32 t314, .int .i32 (rd l1 x7_1)] (by rfl) rfl rfl (by (try simp only [List.map_toArray, List.map_cons, List.map_nil]); first | done | rfl | (simp only [List.length_drop, List.length_take]; rfl)) ?_
              with_reducible refine (tillerref01_Mul.calls k1 t314 (rd l1 x7_1) t316 _ A12.out).mono ?_
              rintro e w' ⟨rfl, ⟨nd, rfl⟩⟩
              refine ⟨_, rfl, ?_⟩
              refine hK.out _ _ ⟨((HB.out.cell (World.block_lt_of_cell? w _ hw313_0)).trans hw313_0), ((HB.out.cell (World.block_lt_of_cell? w _ hw315_0)).trans hw315_0)⟩ (fun hHeld => ?_)
              clear hK K
              refine norm_ (a' := ?_) ?_ ?_
              rotate_left
              · show Act.put _ (some 32) _ = _
                simp only [Act.put, List.setIfInBounds_toArray, List.set_cons_zero, List.set_cons_succ, i64_w, i32_w]
                rfl
              refine one_ (i := 12) (N := some 33) #[true, true, true, true, true, true, true, true, true, true, true, true, true, false, false] rfl rfl (one_of HT_.out (by kernel_rfl)) (by decide) (fun K hK => ?_)
              refine value_ (w1 := ?_) (v := ?_) (by rfl) rfl ?_ ?_
              rotate_left 2
              · go_simp
                constructor
                · rfl
                · rfl
              refine hK.out _ _ ⟨(World.cell?_alloc_lt _ _ _ (World.block_lt_of_cell? _ _ (((HB.out.cell (World.block_lt_of_cell? w _ hw313_0)).trans hw313_0)))).trans (((HB.out.cell (World.block_lt_of_cell? w _ hw313_0)).trans hw313_0)), (World.cell?_alloc_lt _ _ _ (World.block_lt_of_cell? _ _ (((HB.out.cell (World.block_lt_of_cell? w _ hw315_0)).trans hw315_0)))).trans (((HB.out.cell (World.block_lt_of_cell? w _ hw315_0)).trans hw315_0))⟩ (fun hHeld => ?_)
              clear hK K
              refine norm_ (a' := ?_) ?_ ?_
              rotate_left
              · show Act.put _ (some 33) _ = _
                simp only [Act.put, List.setIfInBounds_toArray, List.set_cons_zero, List.set_cons_succ, i64_w, i32_w]
                rfl
              refine one_ (i := 13) (N := some 34) #[true, true, true, true, true, true, true, true, true, true, true, true, true, true, false] rfl rfl (one_of HT_.out (by kernel_rfl)) (by decide) (fun K hK => ?_)
              refine Kd.R_append_step (Kd.int .i32) (w0 := w) w.heap.size (by rfl) (.tmp 21) (.tmp 33) 22 32 (.int .i32 0) 4 rfl Try.underlying22 info32 rfl (by decide) (by omega) u6 x6_1 t316 [.int .i32 t316] (fun _ => True) (fun _ => False) rfl rfl ?aP (fun _ hk => hk.elim) ?aF ?aO ?aB ?aS ?aL ?_
              (case aP => exact rfl)
              (case aB => exact (by repeat (first | (with_reducible first | exact HB.out | apply below_alloc | apply pw_below_drewN | apply below_drew1) | exact HB.out)))
              (case aF => exact (fun _ _ => trivial))
              (case aO => exact (by (with_reducible repeat (first | apply Kd.R_alloc | apply Kd.R_drewN | apply Kd.R_drew)); exact HO_6.out))
              (case aS => exact (below_size (by repeat (first | (with_reducible first | exact HB.out | apply below_alloc | apply pw_below_drewN | apply below_drew1) | exact HB.out))))
              (case aL => have := LMc13.out; omega)
              intro v318 w15 ho hb hg hat
              rw [← Ny317.out] at ho
              have n0_ := Aside0.mk (hb)
              have n1_ := Aside0.mk (ho)
              clear HB
              clear HO_6
              have HB := n0_
              have HO319 := n1_
              clear n0_ n1_
              clear ho hb hg hat
              refine hK.out _ _ ⟨((HB.out.cell (World.block_lt_of_cell? w _ hw313_0)).trans hw313_0), ((HB.out.cell (World.block_lt_of_cell? w _ hw315_0)).trans hw315_0)⟩ (fun hHeld => ?_)
              clear hK K
              refine norm_ (a' := ?_) ?_ ?_
              rotate_left
              · show Act.put _ (some 34) _ = _
                simp only [Act.put, List.setIfInBounds_toArray, List.set_cons_zero, List.set_cons_succ, i64_w, i32_w]
                rfl
              refine pure_ (i := 14) (N := some 6) (v := ?_) (a' := ?_) #[true, true, true, true, true, true, true, true, true, true, true, true, true, true, true] rfl rfl (any_of HT_.out (by kernel_rfl)) (fun _ _ _ h => h) (Or.inl ⟨by rfl, ?_⟩) ?_ ?_
              rotate_left
              · intro w'
                go_simp
                with_reducible rfl
              rotate_left
              · simp only [Act.put, List.setIfInBounds_toArray, List.set_cons_zero, List.set_cons_succ, i64_w, i32_w]
                rfl
              refine done_ (done_of HT_.out (by kernel_rfl)) ?_
              try go_wp2
              go_roundg k1
              case measure => have := HK1.out; omega
              case rel => exact ⟨(y317), (wrap64 (x7_1 + 1)), (by first | rfl | (simp; done) | (simp [*]; done)), H', ⟨by have := HK1.out; omega⟩, ⟨by (with_reducible repeat (first | apply Kd.R_alloc | apply Kd.R_drewN | apply Kd.R_drew)); exact HO319.out⟩, ⟨by repeat (first | (with_reducible first | exact HB.out | apply below_alloc | apply pw_below_drewN | apply below_drew1) | exact HB.out)⟩⟩
            · rw [if_neg c13] at H
              exact absurd H (by simp)
          · rw [if_neg c11] at H
            exact absurd H (by simp)
        · rw [if_neg c9] at H
          exact absurd H (by simp)
      · rw [if_neg c8] at H
        have c8b0 : decide (x7_1 < (l0.length : Int)) = false := decide_eq_false c8
        clear c8
        obtain rfl := Option.some.inj H
        go_wp2
        go_ret
        exact ⟨_, by first | rfl | (simp [errW_none, errW_some] <;> rfl) | (simp [*, errW_none, errW_some] <;> rfl), by (with_reducible repeat (first | apply Kd.R_alloc | apply Kd.R_drewN | apply Kd.R_drew)); exact HO_6.out, by repeat (first | (with_reducible first | exact HB.out | apply below_alloc | apply pw_below_drewN | apply below_drew1) | exact HB.out)⟩

end Go.Proofs.Ytiooeclnjhncmaa.Q
