/- Functions of the program as plain Lean functions, each with a proof that the program's call comes to what it says; and rows of statements over them. No condition but those that the theorems name. Written by a program of this session (myprint.py, over the kit's print with patches of its own). -/
import Derived.Test.YtepbebelbcbciaaQx0
namespace Go.Proofs.Ytepbebelbcbciaa.Q
open Go.RowKit Go.Proofs.YtepbebelbcbciaaW.PrintWords Go.Proofs.YtepbebelbcbciaaW.PrintLast Go.Proofs.YtepbebelbcbciaaW.PrintMore
attribute [local go_sem] max2_int min2_int max_two min_two max_three min_three max_four min_four   -- for this text's walks alone
set_option linter.unusedVariables false
set_option linter.unusedSimpArgs false

/-! ### tillerref01_Sat: function 63 -/
def tillerref01_Sat.f (a0 : Int) : Option (Int) := if a0 > 2147483647 then (some 2147483647) else (if a0 < (-2147483647) then (some (-2147483647)) else (some (wrap32 (a0))))
set_option maxHeartbeats 8000000 in
set_option maxRecDepth 100000 in
theorem tillerref01_Sat.calls (a0 : Int) (r : Int) (w : World) (h : tillerref01_Sat.f a0 = some r) :
    Calls Try.prog 63 #[.int .i64 a0] w fun e w' => e = .returned (.int .i32 r) ∧ Drawn0 w w' := by
  have H : (if a0 > 2147483647 then (some 2147483647) else (if a0 < (-2147483647) then (some (-2147483647)) else (some (wrap32 (a0))))) = some r := h
  clear h
  by_cases c2 : a0 > 2147483647
  · rw [if_pos c2] at H
    have c2b0 : decide (2147483647 < a0) = true := decide_eq_true c2
    clear c2
    obtain rfl := Option.some.inj H
    go_enter Try.func63, Try.ntmps63
    go_wp2
    go_ret
    exact ⟨by first | rfl | (simp; done) | (simp [*]; done), by repeat (first | exact Drawn0.refl _ | apply Drawn0.step)⟩
  · rw [if_neg c2] at H
    have c2b0 : decide (2147483647 < a0) = false := decide_eq_false c2
    clear c2
    by_cases c3 : a0 < (-2147483647)
    · rw [if_pos c3] at H
      have c3b0 : decide (a0 < (-2147483647)) = true := decide_eq_true c3
      clear c3
      obtain rfl := Option.some.inj H
      go_enter Try.func63, Try.ntmps63
      go_wp2
      go_ret
      exact ⟨by first | rfl | (simp; done) | (simp [*]; done), by repeat (first | exact Drawn0.refl _ | apply Drawn0.step)⟩
    · rw [if_neg c3] at H
      have c3b0 : decide (a0 < (-2147483647)) = false := decide_eq_false c3
      clear c3
      obtain rfl := Option.some.inj H
      go_enter Try.func63, Try.ntmps63
      go_wp2
      go_ret
      exact ⟨by first | rfl | (simp; done) | (simp [*]; done), by repeat (first | exact Drawn0.refl _ | apply Drawn0.step)⟩

/-! ### tillerref03_Grow: function 74 -/
def tillerref03_Grow.j0 : Nat → Int → Int → Bool → Option (Int)
  | 0, _, _, _ => none
  | k + 1, x0, x1, x18 => if x18 = true then (some 9223372036854775807) else (if x0 < 0 then (if x1 < 0 then (if (IntKind.u64.wrap ((IntKind.u64.wrap (wrap64 (-x0))) + (IntKind.u64.wrap (wrap64 (-x1))))) > 9223372036854775807 then (some (-9223372036854775807)) else (some (wrap64 (x0 + x1)))) else (some (wrap64 (x0 + x1)))) else (some (wrap64 (x0 + x1))))
def tillerref03_Grow.f (k : Nat) (a0 : Int) (a1 : Int) : Option (Int) := if a0 ≥ 0 then (if a1 ≥ 0 then (tillerref03_Grow.j0 k a0 a1 (decide ((IntKind.u64.wrap ((IntKind.u64.wrap (a0)) + (IntKind.u64.wrap (a1)))) > 9223372036854775807))) else (tillerref03_Grow.j0 k a0 a1 false)) else (tillerref03_Grow.j0 k a0 a1 false)
theorem tillerref03_Grow.mono_l : ∀ k, (∀ y0 y1 y2, LeO (tillerref03_Grow.j0 k y0 y1 y2) (tillerref03_Grow.j0 (k + 1) y0 y1 y2))
  | 0 => fun _ _ _ r h => by simp [tillerref03_Grow.j0] at h
  | k + 1 => by
    have ih0 := tillerref03_Grow.mono_l k
    · intro y0 y1 y2
      unfold tillerref03_Grow.j0
      repeat' first
      | (with_reducible exact ih0 _ _ _)
      | (with_reducible exact LeO.refl _)
      | (with_reducible exact LeO.none _)
      | (with_reducible refine LeO.ite ?_ ?_)
      | (with_reducible refine LeO.bind ?_ (fun _ => ?_))
      | exact ih0 _ _ _
      | exact LeO.none _
      | refine LeO.ite ?_ ?_
      | refine LeO.bind ?_ (fun _ => ?_)
theorem tillerref03_Grow.mono : ∀ a0 a1 k, LeO (tillerref03_Grow.f k a0 a1) (tillerref03_Grow.f (k + 1) a0 a1) := by
  intro a0 a1 k
  have ih0 := tillerref03_Grow.mono_l k
  unfold tillerref03_Grow.f
  repeat' first
      | (with_reducible exact ih0 _ _ _)
      | (with_reducible exact LeO.refl _)
      | (with_reducible exact LeO.none _)
      | (with_reducible refine LeO.ite ?_ ?_)
      | (with_reducible refine LeO.bind ?_ (fun _ => ?_))
      | exact ih0 _ _ _
      | exact LeO.none _
      | refine LeO.ite ?_ ?_
      | refine LeO.bind ?_ (fun _ => ?_)
set_option maxHeartbeats 8000000 in
set_option maxRecDepth 100000 in
theorem tillerref03_Grow.calls (k : Nat) (a0 : Int) (a1 : Int) (r : Int) (w : World) (h : tillerref03_Grow.f k a0 a1 = some r) :
    Calls Try.prog 74 #[.int .i64 a0, .int .i64 a1] w fun e w' => e = .returned (.int .i64 r) ∧ Drawn0 w w' := by
  have H : (if a0 ≥ 0 then (if a1 ≥ 0 then (tillerref03_Grow.j0 k a0 a1 (decide ((IntKind.u64.wrap ((IntKind.u64.wrap (a0)) + (IntKind.u64.wrap (a1)))) > 9223372036854775807))) else (tillerref03_Grow.j0 k a0 a1 false)) else (tillerref03_Grow.j0 k a0 a1 false)) = some r := h
  clear h
  have HC3 := Aside0.mk H
  clear H
  go_enter Try.func74, Try.ntmps74
  go_upto_region 1 with (fail)
  go_cut [18] (fun v18 wc => ∃ (kq : Nat) (x18_2 : Bool), v18 = .bool x18_2 ∧ Aside0 (tillerref03_Grow.j0 kq a0 a1 x18_2 = some r) ∧ Aside0 (kq ≤ k) ∧ Drawn0 w wc)
  case first =>
    have H := HC3.out
    clear HC3
    by_cases c4 : a0 ≥ 0
    · rw [if_pos c4] at H
      have c4b0 : decide (0 ≤ a0) = true := decide_eq_true c4
      clear c4
      (first | rw [c4b0] | (simp only [i64_w, i32_w]; rw [c4b0]) | skip)
      by_cases c5 : a1 ≥ 0
      · rw [if_pos c5] at H
        have c5b0 : decide (0 ≤ a1) = true := decide_eq_true c5
        clear c5
        have H' := Aside0.mk H
        clear H
        go_wp2
        go_meet
        case rel => exact ⟨_, (decide ((IntKind.u64.wrap ((IntKind.u64.wrap (a0)) + (IntKind.u64.wrap (a1)))) > 9223372036854775807)), (by first | rfl | (simp; done) | (simp [*]; done)), H', ⟨by first | omega | exact Nat.le_refl _⟩, by repeat (first | exact Drawn0.refl _ | apply Drawn0.step)⟩
      · rw [if_neg c5] at H
        have c5b0 : decide (0 ≤ a1) = false := decide_eq_false c5
        clear c5
        have H' := Aside0.mk H
        clear H
        go_wp2
        go_meet
        case rel => exact ⟨_, (false), (by first | rfl | (simp; done) | (simp [*]; done)), H', ⟨by first | omega | exact Nat.le_refl _⟩, by repeat (first | exact Drawn0.refl _ | apply Drawn0.step)⟩
    · rw [if_neg c4] at H
      have c4b0 : decide (0 ≤ a0) = false := decide_eq_false c4
      clear c4
      (first | rw [c4b0] | (simp only [i64_w, i32_w]; rw [c4b0]) | skip)
      have H' := Aside0.mk H
      clear H
      go_wp2
      go_meet
      case rel => exact ⟨_, (false), (by first | rfl | (simp; done) | (simp [*]; done)), H', ⟨by first | omega | exact Nat.le_refl _⟩, by repeat (first | exact Drawn0.refl _ | apply Drawn0.step)⟩
  case rest =>
    clear HC3
    try clear p2
    try clear c4
    try clear c4b0
    try clear c5
    try clear c5b0
    obtain ⟨kq, x18_2, rfl, HA, HJ2, ⟨mc2, rfl⟩⟩ := hcut
    cases kq with
    | zero => exact absurd HA.out (by simp [tillerref03_Grow.j0])
    | succ kj2 =>
      have H := HA.out
      clear HA
      simp only [tillerref03_Grow.j0] at H
      by_cases c6 : x18_2 = true
      · subst c6
        have H1 : (some 9223372036854775807) = some r := by rw [if_pos rfl] at H; exact H
        clear H
        have H := H1
        clear H1
        obtain rfl := Option.some.inj H
        go_wp2
        go_ret
        exact ⟨by first | rfl | (simp; done) | (simp [*]; done), by repeat (first | exact Drawn0.refl _ | apply Drawn0.step)⟩
      · replace c6 := Bool.eq_false_iff.mpr c6
        subst c6
        have H1 : (if a0 < 0 then (if a1 < 0 then (if (IntKind.u64.wrap ((IntKind.u64.wrap (wrap64 (-a0))) + (IntKind.u64.wrap (wrap64 (-a1))))) > 9223372036854775807 then (some (-9223372036854775807)) else (some (wrap64 (a0 + a1)))) else (some (wrap64 (a0 + a1)))) else (some (wrap64 (a0 + a1)))) = some r := by rw [if_neg (show ¬ (false = true) by decide)] at H; exact H
        clear H
        have H := H1
        clear H1
        by_cases c7 : a0 < 0
        · rw [if_pos c7] at H
          have c7b0 : decide (a0 < 0) = true := decide_eq_true c7
          clear c7
          by_cases c8 : a1 < 0
          · rw [if_pos c8] at H
            have c8b0 : decide (a1 < 0) = true := decide_eq_true c8
            clear c8
            by_cases c9 : (IntKind.u64.wrap ((IntKind.u64.wrap (wrap64 (-a0))) + (IntKind.u64.wrap (wrap64 (-a1))))) > 9223372036854775807
            · rw [if_pos c9] at H
              have c9b0 : decide (9223372036854775807 < (IntKind.u64.wrap ((IntKind.u64.wrap (wrap64 (-a0))) + (IntKind.u64.wrap (wrap64 (-a1)))))) = true := decide_eq_true c9
              clear c9
              obtain rfl := Option.some.inj H
              go_wp2
              go_ret
              exact ⟨by first | rfl | (simp; done) | (simp [*]; done), by repeat (first | exact Drawn0.refl _ | apply Drawn0.step)⟩
            · rw [if_neg c9] at H
              have c9b0 : decide (9223372036854775807 < (IntKind.u64.wrap ((IntKind.u64.wrap (wrap64 (-a0))) + (IntKind.u64.wrap (wrap64 (-a1)))))) = false := decide_eq_false c9
              clear c9
              obtain rfl := Option.some.inj H
              go_wp2
              go_ret
              exact ⟨by first | rfl | (simp; done) | (simp [*]; done), by repeat (first | exact Drawn0.refl _ | apply Drawn0.step)⟩
          · rw [if_neg c8] at H
            have c8b0 : decide (a1 < 0) = false := decide_eq_false c8
            clear c8
            obtain rfl := Option.some.inj H
            go_wp2
            go_ret
            exact ⟨by first | rfl | (simp; done) | (simp [*]; done), by repeat (first | exact Drawn0.refl _ | apply Drawn0.step)⟩
        · rw [if_neg c7] at H
          have c7b0 : decide (a0 < 0) = false := decide_eq_false c7
          clear c7
          obtain rfl := Option.some.inj H
          go_wp2
          go_ret
          exact ⟨by first | rfl | (simp; done) | (simp [*]; done), by repeat (first | exact Drawn0.refl _ | apply Drawn0.step)⟩

/-! ### tillerref01_Round: function 75 -/
def tillerref01_Round.f : Nat → Int → Int → Option (Int)
  | 0, _, _ => none
  | k + 1, a0, a1 => if a0 < 0 then ((tillerref01_Round.f k (wrap64 (-a0)) a1).bind fun t245 => (some (wrap64 (-t245)))) else (if a1 = 0 then (none) else (if (Int.tmod a0 a1) ≥ (wrap64 (a1 - (Int.tmod a0 a1))) then (some (wrap64 ((wrap64 (Int.tdiv a0 a1)) + 1))) else (some (wrap64 (Int.tdiv a0 a1)))))
theorem tillerref01_Round.mono_l : ∀ k, (∀ y0 y1, LeO (tillerref01_Round.f k y0 y1) (tillerref01_Round.f (k + 1) y0 y1))
  | 0 => fun _ _ r h => by simp [tillerref01_Round.f] at h
  | k + 1 => by
    have ih0 := tillerref01_Round.mono_l k
    · intro y0 y1
      unfold tillerref01_Round.f
      repeat' first
      | (with_reducible exact ih0 _ _)
      | (with_reducible exact LeO.refl _)
      | (with_reducible exact LeO.none _)
      | (with_reducible refine LeO.ite ?_ ?_)
      | (with_reducible refine LeO.bind ?_ (fun _ => ?_))
      | exact ih0 _ _
      | exact LeO.none _
      | refine LeO.ite ?_ ?_
      | refine LeO.bind ?_ (fun _ => ?_)
theorem tillerref01_Round.mono : ∀ a0 a1 k, LeO (tillerref01_Round.f k a0 a1) (tillerref01_Round.f (k + 1) a0 a1) := by
  intro a0 a1 k
  have ih0 := tillerref01_Round.mono_l k
  exact ih0 a0 a1
set_option maxHeartbeats 8000000 in
set_option maxRecDepth 100000 in
theorem tillerref01_Round.calls (k : Nat) : ∀ (a0 : Int) (a1 : Int) (r : Int) (w : World) (h : tillerref01_Round.f k a0 a1 = some r),
    Calls Try.prog 75 #[.int .i64 a0, .int .i64 a1] w fun e w' => e = .returned (.int .i64 r) ∧ Drawn0 w w' := by
  induction k using Nat.strongRecOn with
  | _ k ih =>
  intro a0 a1 r w h
  cases k with
  | zero => exact absurd h (by simp [tillerref01_Round.f])
  | succ k =>
  simp only [tillerref01_Round.f] at h
  have H : (if a0 < 0 then ((tillerref01_Round.f k (wrap64 (-a0)) a1).bind fun t245 => (some (wrap64 (-t245)))) else (if a1 = 0 then (none) else (if (Int.tmod a0 a1) ≥ (wrap64 (a1 - (Int.tmod a0 a1))) then (some (wrap64 ((wrap64 (Int.tdiv a0 a1)) + 1))) else (some (wrap64 (Int.tdiv a0 a1)))))) = some r := h
  clear h
  by_cases c3 : a0 < 0
  · rw [if_pos c3] at H
    have c3b0 : decide (a0 < 0) = true := decide_eq_true c3
    clear c3
    replace H := Option.bind_eq_some_iff.mp H
    obtain ⟨t245, A40, H⟩ := H
    replace H : (some (wrap64 (-t245))) = some r := H
    have A4 := Aside0.mk A40
    clear A40
    obtain rfl := Option.some.inj H
    go_enter Try.func75, Try.ntmps75
    go_wp2_with (first | (go_at_call 75; (with_reducible refine (ih k (by omega) (wrap64 (-a0)) a1 t245 _ A4.out).mono ?_); rintro e w' ⟨rfl, ⟨nd, rfl⟩⟩; (try first | exact ⟨rfl, _, World.drewN_drewN _ _ _⟩ | exact ⟨rfl, _, Eq.trans (World.drewN_drewN _ _ _) (congrArg (World.drewN _) (Nat.add_assoc _ _ _))⟩)))
    repeat (go_quiet (first | (go_at_call 75; (with_reducible refine (ih k (by omega) (wrap64 (-a0)) a1 t245 _ A4.out).mono ?_); rintro e w' ⟨rfl, ⟨nd, rfl⟩⟩; (try first | exact ⟨rfl, _, World.drewN_drewN _ _ _⟩ | exact ⟨rfl, _, Eq.trans (World.drewN_drewN _ _ _) (congrArg (World.drewN _) (Nat.add_assoc _ _ _))⟩))); try go_wp2_with (first | (go_at_call 75; (with_reducible refine (ih k (by omega) (wrap64 (-a0)) a1 t245 _ A4.out).mono ?_); rintro e w' ⟨rfl, ⟨nd, rfl⟩⟩; (try first | exact ⟨rfl, _, World.drewN_drewN _ _ _⟩ | exact ⟨rfl, _, Eq.trans (World.drewN_drewN _ _ _) (congrArg (World.drewN _) (Nat.add_assoc _ _ _))⟩))))
    go_ret
    exact ⟨by first | rfl | (simp; done) | (simp [*]; done), by repeat (first | exact Drawn0.refl _ | apply Drawn0.step)⟩
  · rw [if_neg c3] at H
    have c3b0 : decide (a0 < 0) = false := decide_eq_false c3
    clear c3
    by_cases c5 : a1 = 0
    · rw [if_pos c5] at H
      exact absurd H (by simp)
    · rw [if_neg c5] at H
      have c5b0 : (a1 == 0) = false := beq_eq_false_iff_ne.mpr c5
      have c5b1 : (a1 != 0) = true := bne_iff_ne.mpr c5
      by_cases c6 : (Int.tmod a0 a1) ≥ (wrap64 (a1 - (Int.tmod a0 a1)))
      · rw [if_pos c6] at H
        have c6b0 : decide ((wrap64 (a1 - (Int.tmod a0 a1))) ≤ (Int.tmod a0 a1)) = true := decide_eq_true c6
        clear c6
        obtain rfl := Option.some.inj H
        go_enter Try.func75, Try.ntmps75
        go_wp2
        repeat (go_quiet (fail); try go_wp2)
        go_ret
        exact ⟨by first | rfl | (simp; done) | (simp [*]; done), by repeat (first | exact Drawn0.refl _ | apply Drawn0.step)⟩
      · rw [if_neg c6] at H
        have c6b0 : decide ((wrap64 (a1 - (Int.tmod a0 a1))) ≤ (Int.tmod a0 a1)) = false := decide_eq_false c6
        clear c6
        obtain rfl := Option.some.inj H
        go_enter Try.func75, Try.ntmps75
        go_wp2
        repeat (go_quiet (fail); try go_wp2)
        go_ret
        exact ⟨by first | rfl | (simp; done) | (simp [*]; done), by repeat (first | exact Drawn0.refl _ | apply Drawn0.step)⟩

/-! ### tillerref03_Dot: function 55 -/
def tillerref03_Dot.l0 : Nat → List Int → List Int → Int → Int → Option (Int)
  | 0, _, _, _, _ => none
  | k + 1, x0, x1, x5, x6 => if x6 < (x0.length : Int) then (if 0 ≤ x6 then (if x6 < (x1.length : Int) then ((tillerref03_Grow.f k x5 (wrap64 ((wrap64 (rd x0 x6)) * (wrap64 (rd x1 x6))))).bind fun t248 => (tillerref03_Dot.l0 k x0 x1 t248 (wrap64 (x6 + 1)))) else (none)) else (none)) else ((tillerref01_Round.f k x5 65536).bind fun t249 => ((tillerref01_Sat.f t249).bind fun t250 => (some t250)))
def tillerref03_Dot.f (k : Nat) (l0 : List Int) (l1 : List Int) : Option (Int) := tillerref03_Dot.l0 k l0 l1 0 0
theorem tillerref03_Dot.mono_l : ∀ k, (∀ y0 y1 y2 y3, LeO (tillerref03_Dot.l0 k y0 y1 y2 y3) (tillerref03_Dot.l0 (k + 1) y0 y1 y2 y3))
  | 0 => fun _ _ _ _ r h => by simp [tillerref03_Dot.l0] at h
  | k + 1 => by
    have ih0 := tillerref03_Dot.mono_l k
    · intro y0 y1 y2 y3
      unfold tillerref03_Dot.l0
      repeat' first
      | (with_reducible exact ih0 _ _ _ _)
      | (with_reducible exact tillerref01_Round.mono _ _ _)
      | (with_reducible exact tillerref03_Grow.mono _ _ _)
      | (with_reducible exact LeO.refl _)
      | (with_reducible exact LeO.none _)
      | (with_reducible refine LeO.ite ?_ ?_)
      | (with_reducible refine LeO.bind ?_ (fun _ => ?_))
      | exact ih0 _ _ _ _
      | exact tillerref01_Round.mono _ _ _
      | exact tillerref03_Grow.mono _ _ _
      | exact LeO.none _
      | refine LeO.ite ?_ ?_
      | refine LeO.bind ?_ (fun _ => ?_)
theorem tillerref03_Dot.mono : ∀ a0 a1 k, LeO (tillerref03_Dot.f k a0 a1) (tillerref03_Dot.f (k + 1) a0 a1) := by
  intro a0 a1 k
  have ih0 := tillerref03_Dot.mono_l k
  unfold tillerref03_Dot.f
  repeat' first
      | (with_reducible exact ih0 _ _ _ _)
      | (with_reducible exact tillerref01_Round.mono _ _ _)
      | (with_reducible exact tillerref03_Grow.mono _ _ _)
      | (with_reducible exact LeO.refl _)
      | (with_reducible exact LeO.none _)
      | (with_reducible refine LeO.ite ?_ ?_)
      | (with_reducible refine LeO.bind ?_ (fun _ => ?_))
      | exact ih0 _ _ _ _
      | exact tillerref01_Round.mono _ _ _
      | exact tillerref03_Grow.mono _ _ _
      | exact LeO.none _
      | refine LeO.ite ?_ ?_
      | refine LeO.bind ?_ (fun _ => ?_)
set_option maxHeartbeats 8000000 in
set_option maxRecDepth 100000 in
theorem tillerref03_Dot.calls (k : Nat) (A0 : Option Addr) (c0 : Nat) (l0 : List Int) (A1 : Option Addr) (c1 : Nat) (l1 : List Int) (r : Int) (w : World) (hr0 : Kd.C (Kd.int .i32) w A0 l0.length l0) (hc0 : l0.length ≤ c0) (hr1 : Kd.C (Kd.int .i32) w A1 l1.length l1) (hc1 : l1.length ≤ c1) (h : tillerref03_Dot.f k l0 l1 = some r) :
    Calls Try.prog 55 #[.slice A0 l0.length c0, .slice A1 l1.length c1] w fun e w' => e = .returned (.int .i32 r) ∧ Drawn0 w w' := by
  have HR0 := Aside0.mk hr0
  have HC0 := Aside0.mk hc0
  clear hr0 hc0
  have HR1 := Aside0.mk hr1
  have HC1 := Aside0.mk hc1
  clear hr1 hc1
  have H : (tillerref03_Dot.l0 k l0 l1 0 0) = some r := h
  clear h
  have H' := Aside0.mk H
  clear H
  go_enter Try.func55, Try.ntmps55
  go_wp2
  repeat (go_quiet (fail); try go_wp2)
  go_loopg [5, 6] k (fun kq v5 v6 w' => ∃ (x5_1 : Int) (x6_1 : Int), v5 = .int .i64 x5_1 ∧ v6 = .int .i64 x6_1 ∧ Aside0 (tillerref03_Dot.l0 kq l0 l1 x5_1 x6_1 = some r) ∧ Aside0 (kq ≤ k) ∧ Drawn0 w w')
  case atStart => exact ⟨(0), (0), (by first | rfl | (simp; done) | (simp [*]; done)), (by first | rfl | (simp; done) | (simp [*]; done)), H', ⟨Nat.le_refl _⟩, by repeat (first | exact Drawn0.refl _ | apply Drawn0.step)⟩
  case round =>
    clear H'
    try clear c1
    try clear p2
    obtain ⟨x5_1, x6_1, rfl, rfl, HA, HK1, ⟨m1, rfl⟩⟩ := hrel
    cases gk with
    | zero => exact absurd HA.out (by simp [tillerref03_Dot.l0])
    | succ k1 =>
      have H := HA.out
      clear HA
      simp only [tillerref03_Dot.l0] at H
      by_cases c3 : x6_1 < (l0.length : Int)
      · rw [if_pos c3] at H
        have c3b0 : decide (x6_1 < (l0.length : Int)) = true := decide_eq_true c3
        clear c3
        by_cases c4 : 0 ≤ x6_1
        · rw [if_pos c4] at H
          have c4b0 : decide (0 ≤ x6_1) = true := decide_eq_true c4
          clear c4
          by_cases c5 : x6_1 < (l1.length : Int)
          · rw [if_pos c5] at H
            have c5b0 : decide (x6_1 < (l1.length : Int)) = true := decide_eq_true c5
            clear c5
            replace H := Option.bind_eq_some_iff.mp H
            obtain ⟨t248, A60, H⟩ := H
            replace H : (tillerref03_Dot.l0 k1 l0 l1 t248 (wrap64 (x6_1 + 1))) = some r := H
            have A6 := Aside0.mk A60
            clear A60
            have H' := Aside0.mk H
            clear H
            have p246 : 0 ≤ (x6_1 : Int) := of_decide_eq_true (by first | (with_reducible assumption) | assumption)
            have q246 : x6_1 < (l0.length : Int) := of_decide_eq_true (by first | (with_reducible assumption) | assumption)
            obtain ⟨ad246, e246, hx246_0⟩ := Kd.at_int HR0.out x6_1 p246 q246
            cases e246
            replace p246 := eq_true p246
            replace q246 := eq_true q246
            have p247 : 0 ≤ (x6_1 : Int) := of_decide_eq_true (by first | (with_reducible assumption) | assumption)
            have q247 : x6_1 < (l1.length : Int) := of_decide_eq_true (by first | (with_reducible assumption) | assumption)
            obtain ⟨ad247, e247, hx247_0⟩ := Kd.at_int HR1.out x6_1 p247 q247
            cases e247
            replace p247 := eq_true p247
            replace q247 := eq_true q247
            go_wp2_with (first | (go_at_call 74; (with_reducible refine (tillerref03_Grow.calls k1 x5_1 (wrap64 ((wrap64 (rd l0 x6_1)) * (wrap64 (rd l1 x6_1)))) t248 _ A6.out).mono ?_); rintro e w' ⟨rfl, ⟨nd, rfl⟩⟩; (try first | exact ⟨rfl, _, World.drewN_drewN _ _ _⟩ | exact ⟨rfl, _, Eq.trans (World.drewN_drewN _ _ _) (congrArg (World.drewN _) (Nat.add_assoc _ _ _))⟩)))
            repeat (go_quiet (first | (go_at_call 74; (with_reducible refine (tillerref03_Grow.calls k1 x5_1 (wrap64 ((wrap64 (rd l0 x6_1)) * (wrap64 (rd l1 x6_1)))) t248 _ A6.out).mono ?_); rintro e w' ⟨rfl, ⟨nd, rfl⟩⟩; (try first | exact ⟨rfl, _, World.drewN_drewN _ _ _⟩ | exact ⟨rfl, _, Eq.trans (World.drewN_drewN _ _ _) (congrArg (World.drewN _) (Nat.add_assoc _ _ _))⟩))); try go_wp2_with (first | (go_at_call 74; (with_reducible refine (tillerref03_Grow.calls k1 x5_1 (wrap64 ((wrap64 (rd l0 x6_1)) * (wrap64 (rd l1 x6_1)))) t248 _ A6.out).mono ?_); rintro e w' ⟨rfl, ⟨nd, rfl⟩⟩; (try first | exact ⟨rfl, _, World.drewN_drewN _ _ _⟩ | exact ⟨rfl, _, Eq.trans (World.drewN_drewN _ _ _) (congrArg (World.drewN _) (Nat.add_assoc _ _ _))⟩))))
            go_roundg k1
            case measure => have := HK1.out; omega
            case rel => exact ⟨(t248), (wrap64 (x6_1 + 1)), (by first | rfl | (simp; done) | (simp [*]; done)), (by first | rfl | (simp; done) | (simp [*]; done)), H', ⟨by have := HK1.out; omega⟩, by repeat (first | exact Drawn0.refl _ | apply Drawn0.step)⟩
          · rw [if_neg c5] at H
            exact absurd H (by simp)
        · rw [if_neg c4] at H
          exact absurd H (by simp)
      · rw [if_neg c3] at H
        have c3b0 : decide (x6_1 < (l0.length : Int)) = false := decide_eq_false c3
        clear c3
        replace H := Option.bind_eq_some_iff.mp H
        obtain ⟨t249, A70, H⟩ := H
        replace H : ((tillerref01_Sat.f t249).bind fun t250 => (some t250)) = some r := H
        have A7 := Aside0.mk A70
        clear A70
        replace H := Option.bind_eq_some_iff.mp H
        obtain ⟨t250, A80, H⟩ := H
        replace H : (some t250) = some r := H
        have A8 := Aside0.mk A80
        clear A80
        obtain rfl := Option.some.inj H
        go_wp2_with (first | (go_at_call 75; (with_reducible refine (tillerref01_Round.calls k1 x5_1 65536 t249 _ A7.out).mono ?_); rintro e w' ⟨rfl, ⟨nd, rfl⟩⟩; (try first | exact ⟨rfl, _, World.drewN_drewN _ _ _⟩ | exact ⟨rfl, _, Eq.trans (World.drewN_drewN _ _ _) (congrArg (World.drewN _) (Nat.add_assoc _ _ _))⟩)) | (go_at_call 63; (with_reducible refine (tillerref01_Sat.calls t249 t250 _ A8.out).mono ?_); rintro e w' ⟨rfl, ⟨nd, rfl⟩⟩; (try first | exact ⟨rfl, _, World.drewN_drewN _ _ _⟩ | exact ⟨rfl, _, Eq.trans (World.drewN_drewN _ _ _) (congrArg (World.drewN _) (Nat.add_assoc _ _ _))⟩)))
        repeat (go_quiet (first | (go_at_call 75; (with_reducible refine (tillerref01_Round.calls k1 x5_1 65536 t249 _ A7.out).mono ?_); rintro e w' ⟨rfl, ⟨nd, rfl⟩⟩; (try first | exact ⟨rfl, _, World.drewN_drewN _ _ _⟩ | exact ⟨rfl, _, Eq.trans (World.drewN_drewN _ _ _) (congrArg (World.drewN _) (Nat.add_assoc _ _ _))⟩)) | (go_at_call 63; (with_reducible refine (tillerref01_Sat.calls t249 t250 _ A8.out).mono ?_); rintro e w' ⟨rfl, ⟨nd, rfl⟩⟩; (try first | exact ⟨rfl, _, World.drewN_drewN _ _ _⟩ | exact ⟨rfl, _, Eq.trans (World.drewN_drewN _ _ _) (congrArg (World.drewN _) (Nat.add_assoc _ _ _))⟩))); try go_wp2_with (first | (go_at_call 75; (with_reducible refine (tillerref01_Round.calls k1 x5_1 65536 t249 _ A7.out).mono ?_); rintro e w' ⟨rfl, ⟨nd, rfl⟩⟩; (try first | exact ⟨rfl, _, World.drewN_drewN _ _ _⟩ | exact ⟨rfl, _, Eq.trans (World.drewN_drewN _ _ _) (congrArg (World.drewN _) (Nat.add_assoc _ _ _))⟩)) | (go_at_call 63; (with_reducible refine (tillerref01_Sat.calls t249 t250 _ A8.out).mono ?_); rintro e w' ⟨rfl, ⟨nd, rfl⟩⟩; (try first | exact ⟨rfl, _, World.drewN_drewN _ _ _⟩ | exact ⟨rfl, _, Eq.trans (World.drewN_drewN _ _ _) (congrArg (World.drewN _) (Nat.add_assoc _ _ _))⟩))))
        go_ret
        exact ⟨by first | rfl | (simp; done) | (simp [*]; done), by repeat (first | exact Drawn0.refl _ | apply Drawn0.step)⟩

/-! ### tillerref01_Mul: function 61 -/
def tillerref01_Mul.f (k : Nat) (a0 : Int) (a1 : Int) : Option (Int) := (tillerref01_Round.f k (wrap64 ((wrap64 (a0)) * (wrap64 (a1)))) 65536).bind fun t251 => ((tillerref01_Sat.f t251).bind fun t252 => (some t252))
theorem tillerref01_Mul.mono : ∀ a0 a1 k, LeO (tillerref01_Mul.f k a0 a1) (tillerref01_Mul.f (k + 1) a0 a1) := by
  intro a0 a1 k
  unfold tillerref01_Mul.f
  repeat' first
      | (with_reducible exact tillerref01_Round.mono _ _ _)
      | (with_reducible exact LeO.refl _)
      | (with_reducible exact LeO.none _)
      | (with_reducible refine LeO.ite ?_ ?_)
      | (with_reducible refine LeO.bind ?_ (fun _ => ?_))
      | exact tillerref01_Round.mono _ _ _
      | exact LeO.none _
      | refine LeO.ite ?_ ?_
      | refine LeO.bind ?_ (fun _ => ?_)
set_option maxHeartbeats 8000000 in
set_option maxRecDepth 100000 in
theorem tillerref01_Mul.calls (k : Nat) (a0 : Int) (a1 : Int) (r : Int) (w : World) (h : tillerref01_Mul.f k a0 a1 = some r) :
    Calls Try.prog 61 #[.int .i32 a0, .int .i32 a1] w fun e w' => e = .returned (.int .i32 r) ∧ Drawn0 w w' := by
  have H : ((tillerref01_Round.f k (wrap64 ((wrap64 (a0)) * (wrap64 (a1)))) 65536).bind fun t251 => ((tillerref01_Sat.f t251).bind fun t252 => (some t252))) = some r := h
  clear h
  replace H := Option.bind_eq_some_iff.mp H
  obtain ⟨t251, A30, H⟩ := H
  replace H : ((tillerref01_Sat.f t251).bind fun t252 => (some t252)) = some r := H
  have A3 := Aside0.mk A30
  clear A30
  replace H := Option.bind_eq_some_iff.mp H
  obtain ⟨t252, A40, H⟩ := H
  replace H : (some t252) = some r := H
  have A4 := Aside0.mk A40
  clear A40
  obtain rfl := Option.some.inj H
  go_enter Try.func61, Try.ntmps61
  go_wp2_with (first | ((with_reducible refine gate_callee (f := 75) rfl ?_); refine goesL_ (some 10) rfl rfl Try.func75 (by kernel_rfl) rfl #[.int .i64 (wrap64 ((wrap64 (a0)) * (wrap64 (a1)))), .int .i64 65536] rfl (by (try simp only [List.map_toArray, List.map_cons, List.map_nil]); first | done | rfl | (simp only [List.length_drop, List.length_take]; rfl)) ?_; (with_reducible refine (tillerref01_Round.calls k (wrap64 ((wrap64 (a0)) * (wrap64 (a1)))) 65536 t251 _ A3.out).mono ?_); rintro e w' ⟨rfl, ⟨nd, rfl⟩⟩; refine ⟨_, rfl, ?_⟩) | ((with_reducible refine gate_callee (f := 63) rfl ?_); refine goesL_ (some 11) rfl rfl Try.func63 (by kernel_rfl) rfl #[.int .i64 t251] rfl (by (try simp only [List.map_toArray, List.map_cons, List.map_nil]); first | done | rfl | (simp only [List.length_drop, List.length_take]; rfl)) ?_; (with_reducible refine (tillerref01_Sat.calls t251 t252 _ A4.out).mono ?_); rintro e w' ⟨rfl, ⟨nd, rfl⟩⟩; refine ⟨_, rfl, ?_⟩))
  go_ret
  exact ⟨by first | rfl | (simp; done) | (simp [*]; done), by repeat (first | exact Drawn0.refl _ | apply Drawn0.step)⟩

/-! ### tillerref02_Root: function 80 -/
def tillerref02_Root.l0 : Nat → Int → Int → Int → Option (Int)
  | 0, _, _, _ => none
  | k + 1, x0, x3, x4 => if x4 > 0 then (if (IntKind.u64.wrap ((IntKind.u64.wrap (x3 + x4)) * (IntKind.u64.wrap (x3 + x4)))) ≤ x0 then (tillerref02_Root.l0 k x0 (IntKind.u64.wrap (x3 + x4)) (IntKind.u64.wrap (Int.tdiv x4 2))) else (tillerref02_Root.l0 k x0 x3 (IntKind.u64.wrap (Int.tdiv x4 2)))) else (some x3)
def tillerref02_Root.f (k : Nat) (a0 : Int) : Option (Int) := tillerref02_Root.l0 k a0 0 2147483648
theorem tillerref02_Root.mono_l : ∀ k, (∀ y0 y1 y2, LeO (tillerref02_Root.l0 k y0 y1 y2) (tillerref02_Root.l0 (k + 1) y0 y1 y2))
  | 0 => fun _ _ _ r h => by simp [tillerref02_Root.l0] at h
  | k + 1 => by
    have ih0 := tillerref02_Root.mono_l k
    · intro y0 y1 y2
      unfold tillerref02_Root.l0
      repeat' first
      | (with_reducible exact ih0 _ _ _)
      | (with_reducible exact LeO.refl _)
      | (with_reducible exact LeO.none _)
      | (with_reducible refine LeO.ite ?_ ?_)
      | (with_reducible refine LeO.bind ?_ (fun _ => ?_))
      | exact ih0 _ _ _
      | exact LeO.none _
      | refine LeO.ite ?_ ?_
      | refine LeO.bind ?_ (fun _ => ?_)
theorem tillerref02_Root.mono : ∀ a0 k, LeO (tillerref02_Root.f k a0) (tillerref02_Root.f (k + 1) a0) := by
  intro a0 k
  have ih0 := tillerref02_Root.mono_l k
  unfold tillerref02_Root.f
  repeat' first
      | (with_reducible exact ih0 _ _ _)
      | (with_reducible exact LeO.refl _)
      | (with_reducible exact LeO.none _)
      | (with_reducible refine LeO.ite ?_ ?_)
      | (with_reducible refine LeO.bind ?_ (fun _ => ?_))
      | exact ih0 _ _ _
      | exact LeO.none _
      | refine LeO.ite ?_ ?_
      | refine LeO.bind ?_ (fun _ => ?_)
set_option maxHeartbeats 8000000 in
set_option maxRecDepth 100000 in
theorem tillerref02_Root.calls (k : Nat) (a0 : Int) (r : Int) (w : World) (h : tillerref02_Root.f k a0 = some r) :
    Calls Try.prog 80 #[.int .u64 a0] w fun e w' => e = .returned (.int .u64 r) ∧ Drawn0 w w' := by
  have H : (tillerref02_Root.l0 k a0 0 2147483648) = some r := h
  clear h
  have H' := Aside0.mk H
  clear H
  go_enter Try.func80, Try.ntmps80
  go_wp2
  go_loopg [3, 4] k (fun kq v3 v4 w' => ∃ (x3_1 : Int) (x4_1 : Int), v3 = .int .u64 x3_1 ∧ v4 = .int .u64 x4_1 ∧ Aside0 (tillerref02_Root.l0 kq a0 x3_1 x4_1 = some r) ∧ Aside0 (kq ≤ k) ∧ Drawn0 w w')
  case atStart => exact ⟨(0), (2147483648), (by first | rfl | (simp; done) | (simp [*]; done)), (by first | rfl | (simp; done) | (simp [*]; done)), H', ⟨Nat.le_refl _⟩, by repeat (first | exact Drawn0.refl _ | apply Drawn0.step)⟩
  case round =>
    clear H'
    obtain ⟨x3_1, x4_1, rfl, rfl, HA, HK1, ⟨m1, rfl⟩⟩ := hrel
    cases gk with
    | zero => exact absurd HA.out (by simp [tillerref02_Root.l0])
    | succ k1 =>
      have H := HA.out
      clear HA
      simp only [tillerref02_Root.l0] at H
      by_cases c2 : x4_1 > 0
      · rw [if_pos c2] at H
        have c2b0 : decide (0 < x4_1) = true := decide_eq_true c2
        clear c2
        by_cases c3 : (IntKind.u64.wrap ((IntKind.u64.wrap (x3_1 + x4_1)) * (IntKind.u64.wrap (x3_1 + x4_1)))) ≤ a0
        · rw [if_pos c3] at H
          have c3b0 : decide ((IntKind.u64.wrap ((IntKind.u64.wrap (x3_1 + x4_1)) * (IntKind.u64.wrap (x3_1 + x4_1)))) ≤ a0) = true := decide_eq_true c3
          clear c3
          have H' := Aside0.mk H
          clear H
          go_wp2
          go_roundg k1
          case measure => have := HK1.out; omega
          case rel => exact ⟨(IntKind.u64.wrap (x3_1 + x4_1)), (IntKind.u64.wrap (Int.tdiv x4_1 2)), (by first | rfl | (simp; done) | (simp [*]; done)), (by first | rfl | (simp; done) | (simp [*]; done)), H', ⟨by have := HK1.out; omega⟩, by repeat (first | exact Drawn0.refl _ | apply Drawn0.step)⟩
        · rw [if_neg c3] at H
          have c3b0 : decide ((IntKind.u64.wrap ((IntKind.u64.wrap (x3_1 + x4_1)) * (IntKind.u64.wrap (x3_1 + x4_1)))) ≤ a0) = false := decide_eq_false c3
          clear c3
          have H' := Aside0.mk H
          clear H
          go_wp2
          go_roundg k1
          case measure => have := HK1.out; omega
          case rel => exact ⟨(x3_1), (IntKind.u64.wrap (Int.tdiv x4_1 2)), (by first | rfl | (simp; done) | (simp [*]; done)), (by first | rfl | (simp; done) | (simp [*]; done)), H', ⟨by have := HK1.out; omega⟩, by repeat (first | exact Drawn0.refl _ | apply Drawn0.step)⟩
      · rw [if_neg c2] at H
        have c2b0 : decide (0 < x4_1) = false := decide_eq_false c2
        clear c2
        obtain rfl := Option.some.inj H
        go_wp2
        go_ret
        exact ⟨by first | rfl | (simp; done) | (simp [*]; done), by repeat (first | exact Drawn0.refl _ | apply Drawn0.step)⟩

/-! ### tillerref02_Inverse: function 62 -/
def tillerref02_Inverse.f (k : Nat) (a0 : Int) : Option (Int) := if a0 < 1 then (some 2147483647) else (if (IntKind.u64.wrap (a0)) = 0 then (none) else ((tillerref02_Root.f k (IntKind.u64.wrap (Int.tdiv (281474976710656 : Int) (IntKind.u64.wrap (a0))))).bind fun t253 => (some (wrap32 (t253)))))
theorem tillerref02_Inverse.mono : ∀ a0 k, LeO (tillerref02_Inverse.f k a0) (tillerref02_Inverse.f (k + 1) a0) := by
  intro a0 k
  unfold tillerref02_Inverse.f
  repeat' first
      | (with_reducible exact tillerref02_Root.mono _ _)
      | (with_reducible exact LeO.refl _)
      | (with_reducible exact LeO.none _)
      | (with_reducible refine LeO.ite ?_ ?_)
      | (with_reducible refine LeO.bind ?_ (fun _ => ?_))
      | exact tillerref02_Root.mono _ _
      | exact LeO.none _
      | refine LeO.ite ?_ ?_
      | refine LeO.bind ?_ (fun _ => ?_)
set_option maxHeartbeats 8000000 in
set_option maxRecDepth 100000 in
theorem tillerref02_Inverse.calls (k : Nat) (a0 : Int) (r : Int) (w : World) (h : tillerref02_Inverse.f k a0 = some r) :
    Calls Try.prog 62 #[.int .i32 a0] w fun e w' => e = .returned (.int .i32 r) ∧ Drawn0 w w' := by
  have H : (if a0 < 1 then (some 2147483647) else (if (IntKind.u64.wrap (a0)) = 0 then (none) else ((tillerref02_Root.f k (IntKind.u64.wrap (Int.tdiv (281474976710656 : Int) (IntKind.u64.wrap (a0))))).bind fun t253 => (some (wrap32 (t253)))))) = some r := h
  clear h
  by_cases c2 : a0 < 1
  · rw [if_pos c2] at H
    have c2b0 : decide (a0 < 1) = true := decide_eq_true c2
    clear c2
    obtain rfl := Option.some.inj H
    go_enter Try.func62, Try.ntmps62
    go_wp2
    go_ret
    exact ⟨by first | rfl | (simp; done) | (simp [*]; done), by repeat (first | exact Drawn0.refl _ | apply Drawn0.step)⟩
  · rw [if_neg c2] at H
    have c2b0 : decide (a0 < 1) = false := decide_eq_false c2
    clear c2
    by_cases c3 : (IntKind.u64.wrap (a0)) = 0
    · rw [if_pos c3] at H
      exact absurd H (by simp)
    · rw [if_neg c3] at H
      have c3b0 : ((IntKind.u64.wrap (a0)) == 0) = false := beq_eq_false_iff_ne.mpr c3
      have c3b1 : ((IntKind.u64.wrap (a0)) != 0) = true := bne_iff_ne.mpr c3
      replace H := Option.bind_eq_some_iff.mp H
      obtain ⟨t253, A40, H⟩ := H
      replace H : (some (wrap32 (t253))) = some r := H
      have A4 := Aside0.mk A40
      clear A40
      obtain rfl := Option.some.inj H
      go_enter Try.func62, Try.ntmps62
      go_wp2_with (first | ((with_reducible refine gate_callee (f := 80) rfl ?_); refine goesL_ (some 8) rfl rfl Try.func80 (by kernel_rfl) rfl #[.int .u64 (IntKind.u64.wrap (Int.tdiv (281474976710656 : Int) (IntKind.u64.wrap (a0))))] rfl (by (try simp only [List.map_toArray, List.map_cons, List.map_nil]); first | done | rfl | (simp only [List.length_drop, List.length_take]; rfl)) ?_; (with_reducible refine (tillerref02_Root.calls k (IntKind.u64.wrap (Int.tdiv (281474976710656 : Int) (IntKind.u64.wrap (a0)))) t253 _ A4.out).mono ?_); rintro e w' ⟨rfl, ⟨nd, rfl⟩⟩; refine ⟨_, rfl, ?_⟩))
      go_ret
      exact ⟨by first | rfl | (simp; done) | (simp [*]; done), by repeat (first | exact Drawn0.refl _ | apply Drawn0.step)⟩

/-! ### tillerref07_Score: function 34 -/
def tillerref07_Score.f (k : Nat) (l0 : List Int) (l1 : List Int) (a2 : Int) (a3 : Int) : Option (Int) := if 0 ≤ a2 then (if a2 ≤ (wrap64 (a2 + a3)) then (if (wrap64 (a2 + a3)) ≤ (l0.length : Int) then (if (wrap64 (a2 + a3)) ≤ (l1.length : Int) then ((tillerref03_Dot.f k ((l0.take ((wrap64 (a2 + a3)) : Int).toNat).drop (a2 : Int).toNat) ((l1.take ((wrap64 (a2 + a3)) : Int).toNat).drop (a2 : Int).toNat)).bind fun t256 => ((tillerref01_Sat.f (wrap64 (a3 * 65536))).bind fun t257 => ((tillerref02_Inverse.f k t257).bind fun t258 => ((tillerref01_Mul.f k t256 t258).bind fun t259 => (some t259))))) else (none)) else (none)) else (none)) else (none)
theorem tillerref07_Score.mono : ∀ a0 a1 a2 a3 k, LeO (tillerref07_Score.f k a0 a1 a2 a3) (tillerref07_Score.f (k + 1) a0 a1 a2 a3) := by
  intro a0 a1 a2 a3 k
  unfold tillerref07_Score.f
  repeat' first
      | (with_reducible exact tillerref01_Mul.mono _ _ _)
      | (with_reducible exact tillerref02_Inverse.mono _ _)
      | (with_reducible exact tillerref03_Dot.mono _ _ _)
      | (with_reducible exact LeO.refl _)
      | (with_reducible exact LeO.none _)
      | (with_reducible refine LeO.ite ?_ ?_)
      | (with_reducible refine LeO.bind ?_ (fun _ => ?_))
      | exact tillerref01_Mul.mono _ _ _
      | exact tillerref02_Inverse.mono _ _
      | exact tillerref03_Dot.mono _ _ _
      | exact LeO.none _
      | refine LeO.ite ?_ ?_
      | refine LeO.bind ?_ (fun _ => ?_)
set_option maxHeartbeats 8000000 in
set_option maxRecDepth 100000 in
theorem tillerref07_Score.calls (k : Nat) (A0 : Option Addr) (c0 : Nat) (l0 : List Int) (A1 : Option Addr) (c1 : Nat) (l1 : List Int) (a2 : Int) (a3 : Int) (r : Int) (w : World) (hr0 : Kd.C (Kd.int .i32) w A0 l0.length l0) (hc0 : l0.length ≤ c0) (hr1 : Kd.C (Kd.int .i32) w A1 l1.length l1) (hc1 : l1.length ≤ c1) (h : tillerref07_Score.f k l0 l1 a2 a3 = some r) :
    Calls Try.prog 34 #[.slice A0 l0.length c0, .slice A1 l1.length c1, .int .i64 a2, .int .i64 a3] w fun e w' => e = .returned (.int .i32 r) ∧ Drawn0 w w' := by
  have HR0 := Aside0.mk hr0
  have HC0 := Aside0.mk hc0
  clear hr0 hc0
  have HR1 := Aside0.mk hr1
  have HC1 := Aside0.mk hc1
  clear hr1 hc1
  have H : (if 0 ≤ a2 then (if a2 ≤ (wrap64 (a2 + a3)) then (if (wrap64 (a2 + a3)) ≤ (l0.length : Int) then (if (wrap64 (a2 + a3)) ≤ (l1.length : Int) then ((tillerref03_Dot.f k ((l0.take ((wrap64 (a2 + a3)) : Int).toNat).drop (a2 : Int).toNat) ((l1.take ((wrap64 (a2 + a3)) : Int).toNat).drop (a2 : Int).toNat)).bind fun t256 => ((tillerref01_Sat.f (wrap64 (a3 * 65536))).bind fun t257 => ((tillerref02_Inverse.f k t257).bind fun t258 => ((tillerref01_Mul.f k t256 t258).bind fun t259 => (some t259))))) else (none)) else (none)) else (none)) else (none)) = some r := h
  clear h
  by_cases c5 : 0 ≤ a2
  · rw [if_pos c5] at H
    have c5b0 := eq_true c5
    have c5b1 : decide (0 ≤ a2) = true := decide_eq_true c5
    clear c5
    by_cases c6 : a2 ≤ (wrap64 (a2 + a3))
    · rw [if_pos c6] at H
      have c6b0 := eq_true c6
      have c6b1 : decide (a2 ≤ (wrap64 (a2 + a3))) = true := decide_eq_true c6
      by_cases c7 : (wrap64 (a2 + a3)) ≤ (l0.length : Int)
      · rw [if_pos c7] at H
        have c7b0 := eq_true c7
        have c7b1 : decide ((wrap64 (a2 + a3)) ≤ (l0.length : Int)) = true := decide_eq_true c7
        have c8b0 := eq_true (of_decide_eq_true (by first | (with_reducible assumption) | assumption) : 0 ≤ a2)
        have c9b0 := eq_true (of_decide_eq_true (by first | (with_reducible assumption) | assumption) : a2 ≤ (wrap64 (a2 + a3)))
        by_cases c10 : (wrap64 (a2 + a3)) ≤ (l1.length : Int)
        · rw [if_pos c10] at H
          have c10b0 := eq_true c10
          have c10b1 : decide ((wrap64 (a2 + a3)) ≤ (l1.length : Int)) = true := decide_eq_true c10
          replace H := Option.bind_eq_some_iff.mp H
          obtain ⟨t256, A110, H⟩ := H
          replace H : ((tillerref01_Sat.f (wrap64 (a3 * 65536))).bind fun t257 => ((tillerref02_Inverse.f k t257).bind fun t258 => ((tillerref01_Mul.f k t256 t258).bind fun t259 => (some t259)))) = some r := H
          have A11 := Aside0.mk A110
          clear A110
          replace H := Option.bind_eq_some_iff.mp H
          obtain ⟨t257, A120, H⟩ := H
          replace H : ((tillerref02_Inverse.f k t257).bind fun t258 => ((tillerref01_Mul.f k t256 t258).bind fun t259 => (some t259))) = some r := H
          have A12 := Aside0.mk A120
          clear A120
          replace H := Option.bind_eq_some_iff.mp H
          obtain ⟨t258, A130, H⟩ := H
          replace H : ((tillerref01_Mul.f k t256 t258).bind fun t259 => (some t259)) = some r := H
          have A13 := Aside0.mk A130
          clear A130
          replace H := Option.bind_eq_some_iff.mp H
          obtain ⟨t259, A140, H⟩ := H
          replace H : (some t259) = some r := H
          have A14 := Aside0.mk A140
          clear A140
          obtain rfl := Option.some.inj H
          obtain ⟨i015, hi015, _, hsz15, _⟩ := info_parts info72
          obtain ⟨A15, hcut15, hA15, hC15⟩ := print_mid_of (P := Try.prog) (Value.int .i32) 0 61 72 .i64 .i64 Try.underlying61 hi015 hsz15 A0 c0 l0 a2 (wrap64 (a2 + a3)) (of_decide_eq_true (by first | (with_reducible assumption) | assumption)) (by first | omega | exact of_decide_eq_true (by first | (with_reducible assumption) | assumption)) (of_decide_eq_true (by first | (with_reducible assumption) | assumption)) HC0.out
          have HR254 := Aside0.mk (Kd.C_of_reads (h1 := fun _ => rfl) (hA15 _ (Kd.reads_of_C HR0.out)))
          have HC254 := Aside0.mk hC15
          clear hA15 hC15 hi015 hsz15
          obtain ⟨i016, hi016, _, hsz16, _⟩ := info_parts info72
          obtain ⟨A16, hcut16, hA16, hC16⟩ := print_mid_of (P := Try.prog) (Value.int .i32) 0 61 72 .i64 .i64 Try.underlying61 hi016 hsz16 A1 c1 l1 a2 (wrap64 (a2 + a3)) (of_decide_eq_true (by first | (with_reducible assumption) | assumption)) (by first | omega | exact of_decide_eq_true (by first | (with_reducible assumption) | assumption)) (of_decide_eq_true (by first | (with_reducible assumption) | assumption)) HC1.out
          have HR255 := Aside0.mk (Kd.C_of_reads (h1 := fun _ => rfl) (hA16 _ (Kd.reads_of_C HR1.out)))
          have HC255 := Aside0.mk hC16
          clear hA16 hC16 hi016 hsz16
          generalize ((l0.take ((wrap64 (a2 + a3)) : Int).toNat).drop (a2 : Int).toNat) = L0_ at *
          generalize ((l1.take ((wrap64 (a2 + a3)) : Int).toNat).drop (a2 : Int).toNat) = L1_ at *
          go_enter Try.func34, Try.ntmps34
          go_wp2_with (first | (go_at_call 55; (with_reducible refine (tillerref03_Dot.calls k _ _ L0_ _ _ L1_ t256 _ ?side1 ?side2 ?side3 ?side4 A11.out).mono ?_); (case side1 => repeat (first | exact HR254.out | (with_reducible refine Kd.C_alloc ?_ _) | (with_reducible refine Kd.C_drewN ?_ _) | (with_reducible refine Kd.C_drew ?_))); (case side2 => exact HC254.out); (case side3 => repeat (first | exact HR255.out | (with_reducible refine Kd.C_alloc ?_ _) | (with_reducible refine Kd.C_drewN ?_ _) | (with_reducible refine Kd.C_drew ?_))); (case side4 => exact HC255.out); rintro e w' ⟨rfl, ⟨nd, rfl⟩⟩; (try first | exact ⟨rfl, _, World.drewN_drewN _ _ _⟩ | exact ⟨rfl, _, Eq.trans (World.drewN_drewN _ _ _) (congrArg (World.drewN _) (Nat.add_assoc _ _ _))⟩)) | (go_at_call 63; (with_reducible refine (tillerref01_Sat.calls (wrap64 (a3 * 65536)) t257 _ A12.out).mono ?_); rintro e w' ⟨rfl, ⟨nd, rfl⟩⟩; (try first | exact ⟨rfl, _, World.drewN_drewN _ _ _⟩ | exact ⟨rfl, _, Eq.trans (World.drewN_drewN _ _ _) (congrArg (World.drewN _) (Nat.add_assoc _ _ _))⟩)) | (go_at_call 62; (with_reducible refine (tillerref02_Inverse.calls k t257 t258 _ A13.out).mono ?_); rintro e w' ⟨rfl, ⟨nd, rfl⟩⟩; (try first | exact ⟨rfl, _, World.drewN_drewN _ _ _⟩ | exact ⟨rfl, _, Eq.trans (World.drewN_drewN _ _ _) (congrArg (World.drewN _) (Nat.add_assoc _ _ _))⟩)) | (go_at_call 61; (with_reducible refine (tillerref01_Mul.calls k t256 t258 t259 _ A14.out).mono ?_); rintro e w' ⟨rfl, ⟨nd, rfl⟩⟩; (try first | exact ⟨rfl, _, World.drewN_drewN _ _ _⟩ | exact ⟨rfl, _, Eq.trans (World.drewN_drewN _ _ _) (congrArg (World.drewN _) (Nat.add_assoc _ _ _))⟩)))
          repeat (go_quiet (first | (go_at_call 55; (with_reducible refine (tillerref03_Dot.calls k _ _ L0_ _ _ L1_ t256 _ ?side1 ?side2 ?side3 ?side4 A11.out).mono ?_); (case side1 => repeat (first | exact HR254.out | (with_reducible refine Kd.C_alloc ?_ _) | (with_reducible refine Kd.C_drewN ?_ _) | (with_reducible refine Kd.C_drew ?_))); (case side2 => exact HC254.out); (case side3 => repeat (first | exact HR255.out | (with_reducible refine Kd.C_alloc ?_ _) | (with_reducible refine Kd.C_drewN ?_ _) | (with_reducible refine Kd.C_drew ?_))); (case side4 => exact HC255.out); rintro e w' ⟨rfl, ⟨nd, rfl⟩⟩; (try first | exact ⟨rfl, _, World.drewN_drewN _ _ _⟩ | exact ⟨rfl, _, Eq.trans (World.drewN_drewN _ _ _) (congrArg (World.drewN _) (Nat.add_assoc _ _ _))⟩)) | (go_at_call 63; (with_reducible refine (tillerref01_Sat.calls (wrap64 (a3 * 65536)) t257 _ A12.out).mono ?_); rintro e w' ⟨rfl, ⟨nd, rfl⟩⟩; (try first | exact ⟨rfl, _, World.drewN_drewN _ _ _⟩ | exact ⟨rfl, _, Eq.trans (World.drewN_drewN _ _ _) (congrArg (World.drewN _) (Nat.add_assoc _ _ _))⟩)) | (go_at_call 62; (with_reducible refine (tillerref02_Inverse.calls k t257 t258 _ A13.out).mono ?_); rintro e w' ⟨rfl, ⟨nd, rfl⟩⟩; (try first | exact ⟨rfl, _, World.drewN_drewN _ _ _⟩ | exact ⟨rfl, _, Eq.trans (World.drewN_drewN _ _ _) (congrArg (World.drewN _) (Nat.add_assoc _ _ _))⟩)) | (go_at_call 61; (with_reducible refine (tillerref01_Mul.calls k t256 t258 t259 _ A14.out).mono ?_); rintro e w' ⟨rfl, ⟨nd, rfl⟩⟩; (try first | exact ⟨rfl, _, World.drewN_drewN _ _ _⟩ | exact ⟨rfl, _, Eq.trans (World.drewN_drewN _ _ _) (congrArg (World.drewN _) (Nat.add_assoc _ _ _))⟩))); try go_wp2_with (first | (go_at_call 55; (with_reducible refine (tillerref03_Dot.calls k _ _ L0_ _ _ L1_ t256 _ ?side1 ?side2 ?side3 ?side4 A11.out).mono ?_); (case side1 => repeat (first | exact HR254.out | (with_reducible refine Kd.C_alloc ?_ _) | (with_reducible refine Kd.C_drewN ?_ _) | (with_reducible refine Kd.C_drew ?_))); (case side2 => exact HC254.out); (case side3 => repeat (first | exact HR255.out | (with_reducible refine Kd.C_alloc ?_ _) | (with_reducible refine Kd.C_drewN ?_ _) | (with_reducible refine Kd.C_drew ?_))); (case side4 => exact HC255.out); rintro e w' ⟨rfl, ⟨nd, rfl⟩⟩; (try first | exact ⟨rfl, _, World.drewN_drewN _ _ _⟩ | exact ⟨rfl, _, Eq.trans (World.drewN_drewN _ _ _) (congrArg (World.drewN _) (Nat.add_assoc _ _ _))⟩)) | (go_at_call 63; (with_reducible refine (tillerref01_Sat.calls (wrap64 (a3 * 65536)) t257 _ A12.out).mono ?_); rintro e w' ⟨rfl, ⟨nd, rfl⟩⟩; (try first | exact ⟨rfl, _, World.drewN_drewN _ _ _⟩ | exact ⟨rfl, _, Eq.trans (World.drewN_drewN _ _ _) (congrArg (World.drewN _) (Nat.add_assoc _ _ _))⟩)) | (go_at_call 62; (with_reducible refine (tillerref02_Inverse.calls k t257 t258 _ A13.out).mono ?_); rintro e w' ⟨rfl, ⟨nd, rfl⟩⟩; (try first | exact ⟨rfl, _, World.drewN_drewN _ _ _⟩ | exact ⟨rfl, _, Eq.trans (World.drewN_drewN _ _ _) (congrArg (World.drewN _) (Nat.add_assoc _ _ _))⟩)) | (go_at_call 61; (with_reducible refine (tillerref01_Mul.calls k t256 t258 t259 _ A14.out).mono ?_); rintro e w' ⟨rfl, ⟨nd, rfl⟩⟩; (try first | exact ⟨rfl, _, World.drewN_drewN _ _ _⟩ | exact ⟨rfl, _, Eq.trans (World.drewN_drewN _ _ _) (congrArg (World.drewN _) (Nat.add_assoc _ _ _))⟩))))
          go_ret
          exact ⟨by first | rfl | (simp; done) | (simp [*]; done), by repeat (first | exact Drawn0.refl _ | apply Drawn0.step)⟩
        · rw [if_neg c10] at H
          exact absurd H (by simp)
      · rw [if_neg c7] at H
        exact absurd H (by simp)
    · rw [if_neg c6] at H
      exact absurd H (by simp)
  · rw [if_neg c5] at H
    exact absurd H (by simp)

/-! ### tillerref03_Argmax: function 76 -/
def tillerref03_Argmax.l0 : Nat → List Int → Int → Int → Int → Option (Int)
  | 0, _, _, _, _ => none
  | k + 1, x0, x3, x6, x7 => if x7 < x6 then (if x3 < 0 then (tillerref03_Argmax.l0 k x0 x7 x6 (wrap64 (x7 + 1))) else (if 0 ≤ x7 then (if x7 < (x0.length : Int) then (if 0 ≤ x3 then (if x3 < (x0.length : Int) then (if (rd x0 x7) > (rd x0 x3) then (tillerref03_Argmax.l0 k x0 x7 x6 (wrap64 (x7 + 1))) else (tillerref03_Argmax.l0 k x0 x3 x6 (wrap64 (x7 + 1)))) else (none)) else (none)) else (none)) else (none))) else (some x3)
def tillerref03_Argmax.f (k : Nat) (l0 : List Int) : Option (Int) := tillerref03_Argmax.l0 k l0 (-1) (l0.length : Int) 0
theorem tillerref03_Argmax.mono_l : ∀ k, (∀ y0 y1 y2 y3, LeO (tillerref03_Argmax.l0 k y0 y1 y2 y3) (tillerref03_Argmax.l0 (k + 1) y0 y1 y2 y3))
  | 0 => fun _ _ _ _ r h => by simp [tillerref03_Argmax.l0] at h
  | k + 1 => by
    have ih0 := tillerref03_Argmax.mono_l k
    · intro y0 y1 y2 y3
      unfold tillerref03_Argmax.l0
      repeat' first
      | (with_reducible exact ih0 _ _ _ _)
      | (with_reducible exact LeO.refl _)
      | (with_reducible exact LeO.none _)
      | (with_reducible refine LeO.ite ?_ ?_)
      | (with_reducible refine LeO.bind ?_ (fun _ => ?_))
      | exact ih0 _ _ _ _
      | exact LeO.none _
      | refine LeO.ite ?_ ?_
      | refine LeO.bind ?_ (fun _ => ?_)
theorem tillerref03_Argmax.mono : ∀ a0 k, LeO (tillerref03_Argmax.f k a0) (tillerref03_Argmax.f (k + 1) a0) := by
  intro a0 k
  have ih0 := tillerref03_Argmax.mono_l k
  unfold tillerref03_Argmax.f
  repeat' first
      | (with_reducible exact ih0 _ _ _ _)
      | (with_reducible exact LeO.refl _)
      | (with_reducible exact LeO.none _)
      | (with_reducible refine LeO.ite ?_ ?_)
      | (with_reducible refine LeO.bind ?_ (fun _ => ?_))
      | exact ih0 _ _ _ _
      | exact LeO.none _
      | refine LeO.ite ?_ ?_
      | refine LeO.bind ?_ (fun _ => ?_)
set_option maxHeartbeats 8000000 in
set_option maxRecDepth 100000 in
theorem tillerref03_Argmax.calls (k : Nat) (A0 : Option Addr) (c0 : Nat) (l0 : List Int) (r : Int) (w : World) (hr0 : Kd.C (Kd.int .i32) w A0 l0.length l0) (hc0 : l0.length ≤ c0) (h : tillerref03_Argmax.f k l0 = some r) :
    Calls Try.prog 76 #[.slice A0 l0.length c0] w fun e w' => e = .returned (.int .i64 r) ∧ Drawn0 w w' := by
  have HR0 := Aside0.mk hr0
  have HC0 := Aside0.mk hc0
  clear hr0 hc0
  have H : (tillerref03_Argmax.l0 k l0 (-1) (l0.length : Int) 0) = some r := h
  clear h
  have H' := Aside0.mk H
  clear H
  go_enter Try.func76, Try.ntmps76
  go_wp2
  repeat (go_quiet (fail); try go_wp2)
  go_loopg [3, 7] k (fun kq v3 v7 w' => ∃ (x3_1 : Int) (x7_1 : Int), v3 = .int .i64 x3_1 ∧ v7 = .int .i64 x7_1 ∧ Aside0 (tillerref03_Argmax.l0 kq l0 x3_1 (l0.length : Int) x7_1 = some r) ∧ Aside0 (kq ≤ k) ∧ Drawn0 w w')
  case atStart => exact ⟨((-1)), (0), (by first | rfl | (simp; done) | (simp [*]; done)), (by first | rfl | (simp; done) | (simp [*]; done)), H', ⟨Nat.le_refl _⟩, by repeat (first | exact Drawn0.refl _ | apply Drawn0.step)⟩
  case round =>
    clear H'
    obtain ⟨x3_1, x7_1, rfl, rfl, HA, HK1, ⟨m1, rfl⟩⟩ := hrel
    cases gk with
    | zero => exact absurd HA.out (by simp [tillerref03_Argmax.l0])
    | succ k1 =>
      have H := HA.out
      clear HA
      simp only [tillerref03_Argmax.l0] at H
      by_cases c2 : x7_1 < (l0.length : Int)
      · rw [if_pos c2] at H
        have c2b0 : decide (x7_1 < (l0.length : Int)) = true := decide_eq_true c2
        clear c2
        by_cases c3 : x3_1 < 0
        · rw [if_pos c3] at H
          have c3b0 : decide (x3_1 < 0) = true := decide_eq_true c3
          clear c3
          have H' := Aside0.mk H
          clear H
          go_wp2
          repeat (go_quiet (fail); try go_wp2)
          go_roundg k1
          case measure => have := HK1.out; omega
          case rel => exact ⟨(x7_1), (wrap64 (x7_1 + 1)), (by first | rfl | (simp; done) | (simp [*]; done)), (by first | rfl | (simp; done) | (simp [*]; done)), H', ⟨by have := HK1.out; omega⟩, by repeat (first | exact Drawn0.refl _ | apply Drawn0.step)⟩
        · rw [if_neg c3] at H
          have c3b0 : decide (x3_1 < 0) = false := decide_eq_false c3
          clear c3
          by_cases c4 : 0 ≤ x7_1
          · rw [if_pos c4] at H
            have c4b0 : decide (0 ≤ x7_1) = true := decide_eq_true c4
            clear c4
            by_cases c5 : x7_1 < (l0.length : Int)
            · rw [if_pos c5] at H
              have c5b0 : decide (x7_1 < (l0.length : Int)) = true := decide_eq_true c5
              clear c5
              by_cases c6 : 0 ≤ x3_1
              · rw [if_pos c6] at H
                have c6b0 : decide (0 ≤ x3_1) = true := decide_eq_true c6
                clear c6
                by_cases c7 : x3_1 < (l0.length : Int)
                · rw [if_pos c7] at H
                  have c7b0 : decide (x3_1 < (l0.length : Int)) = true := decide_eq_true c7
                  clear c7
                  by_cases c8 : (rd l0 x7_1) > (rd l0 x3_1)
                  · rw [if_pos c8] at H
                    have c8b0 : decide ((rd l0 x3_1) < (rd l0 x7_1)) = true := decide_eq_true c8
                    clear c8
                    have H' := Aside0.mk H
                    clear H
                    have p260 : 0 ≤ (x7_1 : Int) := of_decide_eq_true (by first | (with_reducible assumption) | assumption)
                    have q260 : x7_1 < (l0.length : Int) := of_decide_eq_true (by first | (with_reducible assumption) | assumption)
                    obtain ⟨ad260, e260, hx260_0⟩ := Kd.at_int HR0.out x7_1 p260 q260
                    cases e260
                    replace p260 := eq_true p260
                    replace q260 := eq_true q260
                    have p261 : 0 ≤ (x3_1 : Int) := of_decide_eq_true (by first | (with_reducible assumption) | assumption)
                    have q261 : x3_1 < (l0.length : Int) := of_decide_eq_true (by first | (with_reducible assumption) | assumption)
                    obtain ⟨ad261, e261, hx261_0⟩ := Kd.at_int HR0.out x3_1 p261 q261
                    obtain rfl : ad260 = ad261 := (by injection e261)
                    replace p261 := eq_true p261
                    replace q261 := eq_true q261
                    go_wp2
                    repeat (go_quiet (fail); try go_wp2)
                    go_roundg k1
                    case measure => have := HK1.out; omega
                    case rel => exact ⟨(x7_1), (wrap64 (x7_1 + 1)), (by first | rfl | (simp; done) | (simp [*]; done)), (by first | rfl | (simp; done) | (simp [*]; done)), H', ⟨by have := HK1.out; omega⟩, by repeat (first | exact Drawn0.refl _ | apply Drawn0.step)⟩
                  · rw [if_neg c8] at H
                    have c8b0 : decide ((rd l0 x3_1) < (rd l0 x7_1)) = false := decide_eq_false c8
                    clear c8
                    have H' := Aside0.mk H
                    clear H
                    have p260 : 0 ≤ (x7_1 : Int) := of_decide_eq_true (by first | (with_reducible assumption) | assumption)
                    have q260 : x7_1 < (l0.length : Int) := of_decide_eq_true (by first | (with_reducible assumption) | assumption)
                    obtain ⟨ad260, e260, hx260_0⟩ := Kd.at_int HR0.out x7_1 p260 q260
                    cases e260
                    replace p260 := eq_true p260
                    replace q260 := eq_true q260
                    have p261 : 0 ≤ (x3_1 : Int) := of_decide_eq_true (by first | (with_reducible assumption) | assumption)
                    have q261 : x3_1 < (l0.length : Int) := of_decide_eq_true (by first | (with_reducible assumption) | assumption)
                    obtain ⟨ad261, e261, hx261_0⟩ := Kd.at_int HR0.out x3_1 p261 q261
                    obtain rfl : ad260 = ad261 := (by injection e261)
                    replace p261 := eq_true p261
                    replace q261 := eq_true q261
                    go_wp2
                    repeat (go_quiet (fail); try go_wp2)
                    go_roundg k1
                    case measure => have := HK1.out; omega
                    case rel => exact ⟨(x3_1), (wrap64 (x7_1 + 1)), (by first | rfl | (simp; done) | (simp [*]; done)), (by first | rfl | (simp; done) | (simp [*]; done)), H', ⟨by have := HK1.out; omega⟩, by repeat (first | exact Drawn0.refl _ | apply Drawn0.step)⟩
                · rw [if_neg c7] at H
                  exact absurd H (by simp)
              · rw [if_neg c6] at H
                exact absurd H (by simp)
            · rw [if_neg c5] at H
              exact absurd H (by simp)
          · rw [if_neg c4] at H
            exact absurd H (by simp)
      · rw [if_neg c2] at H
        have c2b0 : decide (x7_1 < (l0.length : Int)) = false := decide_eq_false c2
        clear c2
        obtain rfl := Option.some.inj H
        go_wp2
        repeat (go_quiet (fail); try go_wp2)
        go_ret
        exact ⟨by first | rfl | (simp; done) | (simp [*]; done), by repeat (first | exact Drawn0.refl _ | apply Drawn0.step)⟩

/-! ### tillerref02_Step: function 83 -/
def tillerref02_Step.f (a0 : Int) : Option (Int) := (some (([65536, 64830, 64132, 63441, 62757, 62081, 61413, 60751, 60097, 59449, 58809, 58176, 57549, 56929, 56316, 55709, 55109, 54515, 53928, 53347, 52773, 52204, 51642, 51085, 50535, 49991, 49452, 48920, 48393, 47871, 47356, 46846, 46341, 45842, 45348, 44859, 44376, 43898, 43425, 42958, 42495, 42037, 41584, 41136, 40693, 40255, 39821, 39392, 38968, 38548, 38133, 37722, 37316, 36914, 36516, 36123, 35734, 35349, 34968, 34591, 34219, 33850, 33486, 33125, 32768] : List Int) : List Int)).bind fun y262 => (if 0 ≤ a0 then (if a0 < (y262.length : Int) then (some (rd y262 a0)) else (none)) else (none))
set_option maxHeartbeats 8000000 in
set_option maxRecDepth 100000 in
theorem tillerref02_Step.calls (a0 : Int) (r : Int) (w : World) (h : tillerref02_Step.f a0 = some r) :
    Calls Try.prog 83 #[.int .i64 a0] w fun e w' => e = .returned (.int .i64 r) ∧ Below w.heap.size w w' := by
  have HB := Aside0.mk (Below.refl w.heap.size w)
  have H : ((some (([65536, 64830, 64132, 63441, 62757, 62081, 61413, 60751, 60097, 59449, 58809, 58176, 57549, 56929, 56316, 55709, 55109, 54515, 53928, 53347, 52773, 52204, 51642, 51085, 50535, 49991, 49452, 48920, 48393, 47871, 47356, 46846, 46341, 45842, 45348, 44859, 44376, 43898, 43425, 42958, 42495, 42037, 41584, 41136, 40693, 40255, 39821, 39392, 38968, 38548, 38133, 37722, 37316, 36914, 36516, 36123, 35734, 35349, 34968, 34591, 34219, 33850, 33486, 33125, 32768] : List Int) : List Int)).bind fun y262 => (if 0 ≤ a0 then (if a0 < (y262.length : Int) then (some (rd y262 a0)) else (none)) else (none))) = some r := h
  clear h
  obtain ⟨y262, hy262⟩ : ∃ y_ : List Int, y_ = (([65536, 64830, 64132, 63441, 62757, 62081, 61413, 60751, 60097, 59449, 58809, 58176, 57549, 56929, 56316, 55709, 55109, 54515, 53928, 53347, 52773, 52204, 51642, 51085, 50535, 49991, 49452, 48920, 48393, 47871, 47356, 46846, 46341, 45842, 45348, 44859, 44376, 43898, 43425, 42958, 42495, 42037, 41584, 41136, 40693, 40255, 39821, 39392, 38968, 38548, 38133, 37722, 37316, 36914, 36516, 36123, 35734, 35349, 34968, 34591, 34219, 33850, 33486, 33125, 32768] : List Int)) := ⟨_, rfl⟩
  replace H : (if 0 ≤ a0 then (if a0 < (y262.length : Int) then (some (rd y262 a0)) else (none)) else (none)) = some r := by first | (rw [hy262]; with_reducible exact H) | (have H2_ := (Option.bind_some _ _).symm.trans H; rw [hy262]; with_reducible exact H2_) | (have H2_ := (Option.bind_some _ _).symm.trans H; with_reducible exact H2_) | with_reducible exact H | (rw [hy262]; exact H) | exact H
  have Ny262 := Aside0.mk hy262
  clear hy262
  by_cases c2 : 0 ≤ a0
  · rw [if_pos c2] at H
    have c2b0 : decide (0 ≤ a0) = true := decide_eq_true c2
    clear c2
    by_cases c3 : a0 < (y262.length : Int)
    · rw [if_pos c3] at H
      have c3b0 : decide (a0 < (y262.length : Int)) = true := decide_eq_true c3
      clear c3
      obtain rfl := Option.some.inj H
      go_enter Try.func83, Try.ntmps83
      go_wp2_with (first | ((with_reducible refine gate_dst (N := 4) rfl ?_); refine Kd.R_lit (Kd.int .i64) _ 2 ?hg (N := 4) ?hd (xs := ([65536, 64830, 64132, 63441, 62757, 62081, 61413, 60751, 60097, 59449, 58809, 58176, 57549, 56929, 56316, 55709, 55109, 54515, 53928, 53347, 52773, 52204, 51642, 51085, 50535, 49991, 49452, 48920, 48393, 47871, 47356, 46846, 46341, 45842, 45348, 44859, 44376, 43898, 43425, 42958, 42495, 42037, 41584, 41136, 40693, 40255, 39821, 39392, 38968, 38548, 38133, 37722, 37316, 36914, 36516, 36123, 35734, 35349, 34968, 34591, 34219, 33850, 33486, 33125, 32768] : List Int)) (inner := [.int .i64 65536, .int .i64 64830, .int .i64 64132, .int .i64 63441, .int .i64 62757, .int .i64 62081, .int .i64 61413, .int .i64 60751, .int .i64 60097, .int .i64 59449, .int .i64 58809, .int .i64 58176, .int .i64 57549, .int .i64 56929, .int .i64 56316, .int .i64 55709, .int .i64 55109, .int .i64 54515, .int .i64 53928, .int .i64 53347, .int .i64 52773, .int .i64 52204, .int .i64 51642, .int .i64 51085, .int .i64 50535, .int .i64 49991, .int .i64 49452, .int .i64 48920, .int .i64 48393, .int .i64 47871, .int .i64 47356, .int .i64 46846, .int .i64 46341, .int .i64 45842, .int .i64 45348, .int .i64 44859, .int .i64 44376, .int .i64 43898, .int .i64 43425, .int .i64 42958, .int .i64 42495, .int .i64 42037, .int .i64 41584, .int .i64 41136, .int .i64 40693, .int .i64 40255, .int .i64 39821, .int .i64 39392, .int .i64 38968, .int .i64 38548, .int .i64 38133, .int .i64 37722, .int .i64 37316, .int .i64 36914, .int .i64 36516, .int .i64 36123, .int .i64 35734, .int .i64 35349, .int .i64 34968, .int .i64 34591, .int .i64 34219, .int .i64 33850, .int .i64 33486, .int .i64 33125, .int .i64 32768]) (ok := fun _ => True) (okp := fun _ => True) ?hr ?hp (fun _ hk => hk) trivial (Below.refl _ _) (Nat.le_refl _) (by simp) ?_; (case hd => rfl); (case hg => rfl); (case hr => first | (go_simp; done) | (go_simp; rfl)); (case hp => exact (Reps.one (show Kd.M (Kd.int .i64) _ _ _ 65536 [.int .i64 65536] from rfl) (Reps.one (show Kd.M (Kd.int .i64) _ _ _ 64830 [.int .i64 64830] from rfl) (Reps.one (show Kd.M (Kd.int .i64) _ _ _ 64132 [.int .i64 64132] from rfl) (Reps.one (show Kd.M (Kd.int .i64) _ _ _ 63441 [.int .i64 63441] from rfl) (Reps.one (show Kd.M (Kd.int .i64) _ _ _ 62757 [.int .i64 62757] from rfl) (Reps.one (show Kd.M (Kd.int .i64) _ _ _ 62081 [.int .i64 62081] from rfl) (Reps.one (show Kd.M (Kd.int .i64) _ _ _ 61413 [.int .i64 61413] from rfl) (Reps.one (show Kd.M (Kd.int .i64) _ _ _ 60751 [.int .i64 60751] from rfl) (Reps.one (show Kd.M (Kd.int .i64) _ _ _ 60097 [.int .i64 60097] from rfl) (Reps.one (show Kd.M (Kd.int .i64) _ _ _ 59449 [.int .i64 59449] from rfl) (Reps.one (show Kd.M (Kd.int .i64) _ _ _ 58809 [.int .i64 58809] from rfl) (Reps.one (show Kd.M (Kd.int .i64) _ _ _ 58176 [.int .i64 58176] from rfl) (Reps.one (show Kd.M (Kd.int .i64) _ _ _ 57549 [.int .i64 57549] from rfl) (Reps.one (show Kd.M (Kd.int .i64) _ _ _ 56929 [.int .i64 56929] from rfl) (Reps.one (show Kd.M (Kd.int .i64) _ _ _ 56316 [.int .i64 56316] from rfl) (Reps.one (show Kd.M (Kd.int .i64) _ _ _ 55709 [.int .i64 55709] from rfl) (Reps.one (show Kd.M (Kd.int .i64) _ _ _ 55109 [.int .i64 55109] from rfl) (Reps.one (show Kd.M (Kd.int .i64) _ _ _ 54515 [.int .i64 54515] from rfl) (Reps.one (show Kd.M (Kd.int .i64) _ _ _ 53928 [.int .i64 53928] from rfl) (Reps.one (show Kd.M (Kd.int .i64) _ _ _ 53347 [.int .i64 53347] from rfl) (Reps.one (show Kd.M (Kd.int .i64) _ _ _ 52773 [.int .i64 52773] from rfl) (Reps.one (show Kd.M (Kd.int .i64) _ _ _ 52204 [.int .i64 52204] from rfl) (Reps.one (show Kd.M (Kd.int .i64) _ _ _ 51642 [.int .i64 51642] from rfl) (Reps.one (show Kd.M (Kd.int .i64) _ _ _ 51085 [.int .i64 51085] from rfl) (Reps.one (show Kd.M (Kd.int .i64) _ _ _ 50535 [.int .i64 50535] from rfl) (Reps.one (show Kd.M (Kd.int .i64) _ _ _ 49991 [.int .i64 49991] from rfl) (Reps.one (show Kd.M (Kd.int .i64) _ _ _ 49452 [.int .i64 49452] from rfl) (Reps.one (show Kd.M (Kd.int .i64) _ _ _ 48920 [.int .i64 48920] from rfl) (Reps.one (show Kd.M (Kd.int .i64) _ _ _ 48393 [.int .i64 48393] from rfl) (Reps.one (show Kd.M (Kd.int .i64) _ _ _ 47871 [.int .i64 47871] from rfl) (Reps.one (show Kd.M (Kd.int .i64) _ _ _ 47356 [.int .i64 47356] from rfl) (Reps.one (show Kd.M (Kd.int .i64) _ _ _ 46846 [.int .i64 46846] from rfl) (Reps.one (show Kd.M (Kd.int .i64) _ _ _ 46341 [.int .i64 46341] from rfl) (Reps.one (show Kd.M (Kd.int .i64) _ _ _ 45842 [.int .i64 45842] from rfl) (Reps.one (show Kd.M (Kd.int .i64) _ _ _ 45348 [.int .i64 45348] from rfl) (Reps.one (show Kd.M (Kd.int .i64) _ _ _ 44859 [.int .i64 44859] from rfl) (Reps.one (show Kd.M (Kd.int .i64) _ _ _ 44376 [.int .i64 44376] from rfl) (Reps.one (show Kd.M (Kd.int .i64) _ _ _ 43898 [.int .i64 43898] from rfl) (Reps.one (show Kd.M (Kd.int .i64) _ _ _ 43425 [.int .i64 43425] from rfl) (Reps.one (show Kd.M (Kd.int .i64) _ _ _ 42958 [.int .i64 42958] from rfl) (Reps.one (show Kd.M (Kd.int .i64) _ _ _ 42495 [.int .i64 42495] from rfl) (Reps.one (show Kd.M (Kd.int .i64) _ _ _ 42037 [.int .i64 42037] from rfl) (Reps.one (show Kd.M (Kd.int .i64) _ _ _ 41584 [.int .i64 41584] from rfl) (Reps.one (show Kd.M (Kd.int .i64) _ _ _ 41136 [.int .i64 41136] from rfl) (Reps.one (show Kd.M (Kd.int .i64) _ _ _ 40693 [.int .i64 40693] from rfl) (Reps.one (show Kd.M (Kd.int .i64) _ _ _ 40255 [.int .i64 40255] from rfl) (Reps.one (show Kd.M (Kd.int .i64) _ _ _ 39821 [.int .i64 39821] from rfl) (Reps.one (show Kd.M (Kd.int .i64) _ _ _ 39392 [.int .i64 39392] from rfl) (Reps.one (show Kd.M (Kd.int .i64) _ _ _ 38968 [.int .i64 38968] from rfl) (Reps.one (show Kd.M (Kd.int .i64) _ _ _ 38548 [.int .i64 38548] from rfl) (Reps.one (show Kd.M (Kd.int .i64) _ _ _ 38133 [.int .i64 38133] from rfl) (Reps.one (show Kd.M (Kd.int .i64) _ _ _ 37722 [.int .i64 37722] from rfl) (Reps.one (show Kd.M (Kd.int .i64) _ _ _ 37316 [.int .i64 37316] from rfl) (Reps.one (show Kd.M (Kd.int .i64) _ _ _ 36914 [.int .i64 36914] from rfl) (Reps.one (show Kd.M (Kd.int .i64) _ _ _ 36516 [.int .i64 36516] from rfl) (Reps.one (show Kd.M (Kd.int .i64) _ _ _ 36123 [.int .i64 36123] from rfl) (Reps.one (show Kd.M (Kd.int .i64) _ _ _ 35734 [.int .i64 35734] from rfl) (Reps.one (show Kd.M (Kd.int .i64) _ _ _ 35349 [.int .i64 35349] from rfl) (Reps.one (show Kd.M (Kd.int .i64) _ _ _ 34968 [.int .i64 34968] from rfl) (Reps.one (show Kd.M (Kd.int .i64) _ _ _ 34591 [.int .i64 34591] from rfl) (Reps.one (show Kd.M (Kd.int .i64) _ _ _ 34219 [.int .i64 34219] from rfl) (Reps.one (show Kd.M (Kd.int .i64) _ _ _ 33850 [.int .i64 33850] from rfl) (Reps.one (show Kd.M (Kd.int .i64) _ _ _ 33486 [.int .i64 33486] from rfl) (Reps.one (show Kd.M (Kd.int .i64) _ _ _ 33125 [.int .i64 33125] from rfl) (Reps.one (show Kd.M (Kd.int .i64) _ _ _ 32768 [.int .i64 32768] from rfl) (Reps.none _ _))))))))))))))))))))))))))))))))))))))))))))))))))))))))))))))))))); intro v263 w4 ho5 hb hg_ hnew_; clear hg_ hnew_; (first | rw [← Ny262.out] at ho5 | (simp only [Int.reduceToNat] at ho5; rw [← Ny262.out] at ho5)); have n0_ := Aside0.mk (Kd.R_lower ho5 (below_size (by repeat (first | (with_reducible first | exact HB.out | apply below_alloc | apply pw_below_drewN | apply below_drew1) | exact HB.out)))); have n1_ := Aside0.mk (below_step (by repeat (first | (with_reducible first | exact HB.out | apply below_alloc | apply pw_below_drewN | apply below_drew1) | exact HB.out)) hb); clear HB; have HO264 := n0_; have HB := n1_; clear n0_ n1_; clear hb ho5; obtain ⟨Ao6, co6, eo6⟩ := Kd.R_slice HO264.out; subst eo6; have p265 : 0 ≤ (a0 : Int) := of_decide_eq_true (by first | (with_reducible assumption) | assumption); have q265 : a0 < (y262.length : Int) := of_decide_eq_true (by first | (with_reducible assumption) | assumption); obtain ⟨ad265, e265, hx265_0⟩ := Kd.at_int (Kd.R_reads' HO264.out).2.2 a0 p265 q265; cases e265; replace p265 := eq_true p265; replace q265 := eq_true q265))
      go_ret
      exact ⟨by first | rfl | (simp [errW_none, errW_some] <;> rfl) | (simp [*, errW_none, errW_some] <;> rfl), by repeat (first | (with_reducible first | exact HB.out | apply below_alloc | apply pw_below_drewN | apply below_drew1) | exact HB.out)⟩
    · rw [if_neg c3] at H
      exact absurd H (by simp)
  · rw [if_neg c2] at H
    exact absurd H (by simp)

end Go.Proofs.Ytepbebelbcbciaa.Q
