/- Functions of the program as plain Lean functions, each with a proof that the program's call comes to what it says; and rows of statements over them. No condition but those that the theorems name. Written by a program of this session (myprint.py, over the kit's print with patches of its own). -/
import Derived.Test.YtepbebelbcbciaaQx0
import Derived.Test.YtepbebelbcbciaaQx1
namespace Go.Proofs.Ytepbebelbcbciaa.Q
open Go.RowKit Go.Proofs.YtepbebelbcbciaaW.PrintWords Go.Proofs.YtepbebelbcbciaaW.PrintLast Go.Proofs.YtepbebelbcbciaaW.PrintMore
attribute [local go_sem] max2_int min2_int max_two min_two max_three min_three max_four min_four   -- for this text's walks alone
set_option linter.unusedVariables false
set_option linter.unusedSimpArgs false

/-! ### vec_fit: function 79 -/
def vec_fit.j0 : Nat → List Int → List Int → Bool → Option (Int)
  | 0, _, _, _ => none
  | k + 1, x0, x1, x12 => if x12 = true then (some 2) else (if (x0.length : Int) = (x1.length : Int) then (some 0) else (some 6))
def vec_fit.f (k : Nat) (l0 : List Int) (l1 : List Int) : Option (Int) := if (l0.length : Int) > 4096 then (vec_fit.j0 k l0 l1 true) else (vec_fit.j0 k l0 l1 (decide ((l1.length : Int) > 4096)))
theorem vec_fit.mono_l : ∀ k, (∀ y0 y1 y2, LeO (vec_fit.j0 k y0 y1 y2) (vec_fit.j0 (k + 1) y0 y1 y2))
  | 0 => fun _ _ _ r h => by simp [vec_fit.j0] at h
  | k + 1 => by
    have ih0 := vec_fit.mono_l k
    · intro y0 y1 y2
      unfold vec_fit.j0
      repeat' first
      | (with_reducible exact ih0 _ _ _)
      | (with_reducible exact LeO.refl _)
      | (with_reducible exact LeO.none _)
      | (with_reducible refine LeO.ite ?_ ?_)
      | (with_reducible refine LeO.bind ?_ (fun _ => ?_))
      | exact ih0 _ _ _
      | exact LeO.none _
      | refine LeO.ite ?_ ?_
      | refine LeO.bind ?_ (fun _ => ?_)
theorem vec_fit.mono : ∀ a0 a1 k, LeO (vec_fit.f k a0 a1) (vec_fit.f (k + 1) a0 a1) := by
  intro a0 a1 k
  have ih0 := vec_fit.mono_l k
  unfold vec_fit.f
  repeat' first
      | (with_reducible exact ih0 _ _ _)
      | (with_reducible exact LeO.refl _)
      | (with_reducible exact LeO.none _)
      | (with_reducible refine LeO.ite ?_ ?_)
      | (with_reducible refine LeO.bind ?_ (fun _ => ?_))
      | exact ih0 _ _ _
      | exact LeO.none _
      | refine LeO.ite ?_ ?_
      | refine LeO.bind ?_ (fun _ => ?_)
set_option maxHeartbeats 8000000 in
set_option maxRecDepth 100000 in
theorem vec_fit.calls (k : Nat) (A0 : Option Addr) (c0 : Nat) (l0 : List Int) (A1 : Option Addr) (c1 : Nat) (l1 : List Int) (r : Int) (w : World) (hr0 : Kd.C (Kd.int .i32) w A0 l0.length l0) (hc0 : l0.length ≤ c0) (hr1 : Kd.C (Kd.int .i32) w A1 l1.length l1) (hc1 : l1.length ≤ c1) (h : vec_fit.f k l0 l1 = some r) :
    Calls Try.prog 79 #[.slice A0 l0.length c0, .slice A1 l1.length c1] w fun e w' => e = .returned (.int .i64 r) ∧ Drawn0 w w' := by
  have HR0 := Aside0.mk hr0
  have HC0 := Aside0.mk hc0
  clear hr0 hc0
  have HR1 := Aside0.mk hr1
  have HC1 := Aside0.mk hc1
  clear hr1 hc1
  have H : (if (l0.length : Int) > 4096 then (vec_fit.j0 k l0 l1 true) else (vec_fit.j0 k l0 l1 (decide ((l1.length : Int) > 4096)))) = some r := h
  clear h
  have HC3 := Aside0.mk H
  clear H
  go_enter Try.func79, Try.ntmps79
  go_upto_region 1 with (fail)
  go_cut [12] (fun v12 wc => ∃ (kq : Nat) (x12_2 : Bool), v12 = .bool x12_2 ∧ Aside0 (vec_fit.j0 kq l0 l1 x12_2 = some r) ∧ Aside0 (kq ≤ k) ∧ Drawn0 w wc)
  case first =>
    have H := HC3.out
    clear HC3
    by_cases c4 : (l0.length : Int) > 4096
    · rw [if_pos c4] at H
      have c4b0 : decide (4096 < (l0.length : Int)) = true := decide_eq_true c4
      have c4b1 : decide (4096 < l0.length) = true := decide_eq_true (by omega)
      clear c4
      (first | rw [c4b0] | (simp only [i64_w, i32_w]; rw [c4b0]) | skip)
      have H' := Aside0.mk H
      clear H
      go_wp2
      go_meet
      case rel => exact ⟨_, (true), (by first | rfl | (simp; done) | (simp [*]; done)), H', ⟨by first | omega | exact Nat.le_refl _⟩, by repeat (first | exact Drawn0.refl _ | apply Drawn0.step)⟩
    · rw [if_neg c4] at H
      have c4b0 : decide (4096 < (l0.length : Int)) = false := decide_eq_false c4
      have c4b1 : decide (4096 < l0.length) = false := decide_eq_false (by omega)
      clear c4
      (first | rw [c4b0] | (simp only [i64_w, i32_w]; rw [c4b0]) | skip)
      have H' := Aside0.mk H
      clear H
      go_wp2
      go_meet
      case rel => exact ⟨_, (decide ((l1.length : Int) > 4096)), (by first | rfl | (simp; done) | (simp [*]; done)), H', ⟨by first | omega | exact Nat.le_refl _⟩, by repeat (first | exact Drawn0.refl _ | apply Drawn0.step)⟩
  case rest =>
    clear HC3
    try clear c1
    try clear p2
    try clear c4
    try clear c4b0
    try clear c4b1
    obtain ⟨kq, x12_2, rfl, HA, HJ2, ⟨mc2, rfl⟩⟩ := hcut
    cases kq with
    | zero => exact absurd HA.out (by simp [vec_fit.j0])
    | succ kj2 =>
      have H := HA.out
      clear HA
      simp only [vec_fit.j0] at H
      by_cases c5 : x12_2 = true
      · subst c5
        have H1 : (some 2) = some r := by rw [if_pos rfl] at H; exact H
        clear H
        have H := H1
        clear H1
        obtain rfl := Option.some.inj H
        go_wp2
        go_ret
        exact ⟨by first | rfl | (simp; done) | (simp [*]; done), by repeat (first | exact Drawn0.refl _ | apply Drawn0.step)⟩
      · replace c5 := Bool.eq_false_iff.mpr c5
        subst c5
        have H1 : (if (l0.length : Int) = (l1.length : Int) then (some 0) else (some 6)) = some r := by rw [if_neg (show ¬ (false = true) by decide)] at H; exact H
        clear H
        have H := H1
        clear H1
        by_cases c6 : (l0.length : Int) = (l1.length : Int)
        · rw [if_pos c6] at H
          have c6b0 : ((l0.length : Int) == (l1.length : Int)) = true := beq_iff_eq.mpr c6
          have c6b1 : ((l0.length : Int) != (l1.length : Int)) = false := bne_eq_false_iff_eq.mpr c6
          have c6b2 : (l0.length == l1.length) = true := by first | simpa using c6 | (simp at c6 ⊢; omega)
          clear c6
          obtain rfl := Option.some.inj H
          go_wp2
          go_ret
          exact ⟨by first | rfl | (simp; done) | (simp [*]; done), by repeat (first | exact Drawn0.refl _ | apply Drawn0.step)⟩
        · rw [if_neg c6] at H
          have c6b0 : ((l0.length : Int) == (l1.length : Int)) = false := beq_eq_false_iff_ne.mpr c6
          have c6b1 : ((l0.length : Int) != (l1.length : Int)) = true := bne_iff_ne.mpr c6
          have c6b2 : (l0.length == l1.length) = false := by first | simpa using c6 | (simp at c6 ⊢; omega)
          obtain rfl := Option.some.inj H
          go_wp2
          go_ret
          exact ⟨by first | rfl | (simp; done) | (simp [*]; done), by repeat (first | exact Drawn0.refl _ | apply Drawn0.step)⟩

/-! ### vec_Dot: function 59 -/
def vec_Dot.l0 : Nat → List Int → Int → List Int → Int → Int → Option (Int × Int)
  | 0, _, _, _, _, _ => none
  | k + 1, x1, x7, x16, x17, x18 => if x18 < x17 then (if 0 ≤ x18 then (if x18 < (x16.length : Int) then (if x18 < (x1.length : Int) then ((vec_Grow.f k x7 (wrap64 ((wrap64 (rd x16 x18)) * (wrap64 (rd x1 x18))))).bind fun t130 => (vec_Dot.l0 k x1 t130 x16 x17 (wrap64 (x18 + 1)))) else (none)) else (none)) else (none)) else ((fix_Round.f k x7 65536).bind fun t131 => ((fix_Sat.f t131).bind fun t132 => (some (t132, 0))))
def vec_Dot.f (k : Nat) (l0 : List Int) (l1 : List Int) : Option (Int × Int) := (vec_fit.f k l0 l1).bind fun t127 => (if t127 = 0 then (vec_Dot.l0 k l1 0 l0 (l0.length : Int) 0) else (some (0, t127)))
theorem vec_Dot.mono_l : ∀ k, (∀ y0 y1 y2 y3 y4, LeO (vec_Dot.l0 k y0 y1 y2 y3 y4) (vec_Dot.l0 (k + 1) y0 y1 y2 y3 y4))
  | 0 => fun _ _ _ _ _ r h => by simp [vec_Dot.l0] at h
  | k + 1 => by
    have ih0 := vec_Dot.mono_l k
    · intro y0 y1 y2 y3 y4
      unfold vec_Dot.l0
      repeat' first
      | (with_reducible exact ih0 _ _ _ _ _)
      | (with_reducible exact fix_Round.mono _ _ _)
      | (with_reducible exact vec_Grow.mono _ _ _)
      | (with_reducible exact vec_fit.mono _ _ _)
      | (with_reducible exact LeO.refl _)
      | (with_reducible exact LeO.none _)
      | (with_reducible refine LeO.ite ?_ ?_)
      | (with_reducible refine LeO.bind ?_ (fun _ => ?_))
      | exact ih0 _ _ _ _ _
      | exact fix_Round.mono _ _ _
      | exact vec_Grow.mono _ _ _
      | exact vec_fit.mono _ _ _
      | exact LeO.none _
      | refine LeO.ite ?_ ?_
      | refine LeO.bind ?_ (fun _ => ?_)
theorem vec_Dot.mono : ∀ a0 a1 k, LeO (vec_Dot.f k a0 a1) (vec_Dot.f (k + 1) a0 a1) := by
  intro a0 a1 k
  have ih0 := vec_Dot.mono_l k
  unfold vec_Dot.f
  repeat' first
      | (with_reducible exact ih0 _ _ _ _ _)
      | (with_reducible exact fix_Round.mono _ _ _)
      | (with_reducible exact vec_Grow.mono _ _ _)
      | (with_reducible exact vec_fit.mono _ _ _)
      | (with_reducible exact LeO.refl _)
      | (with_reducible exact LeO.none _)
      | (with_reducible refine LeO.ite ?_ ?_)
      | (with_reducible refine LeO.bind ?_ (fun _ => ?_))
      | exact ih0 _ _ _ _ _
      | exact fix_Round.mono _ _ _
      | exact vec_Grow.mono _ _ _
      | exact vec_fit.mono _ _ _
      | exact LeO.none _
      | refine LeO.ite ?_ ?_
      | refine LeO.bind ?_ (fun _ => ?_)
set_option maxHeartbeats 8000000 in
set_option maxRecDepth 100000 in
theorem vec_Dot.calls (k : Nat) (A0 : Option Addr) (c0 : Nat) (l0 : List Int) (A1 : Option Addr) (c1 : Nat) (l1 : List Int) (r1 : Int) (r2 : Int) (w : World) (hr0 : Kd.C (Kd.int .i32) w A0 l0.length l0) (hc0 : l0.length ≤ c0) (hr1 : Kd.C (Kd.int .i32) w A1 l1.length l1) (hc1 : l1.length ≤ c1) (h : vec_Dot.f k l0 l1 = some (r1, r2)) :
    Calls Try.prog 59 #[.slice A0 l0.length c0, .slice A1 l1.length c1] w fun e w' => e = .returned (.tuple #[.int .i32 r1, .int .i64 r2]) ∧ Below w.heap.size w w' := by
  have HR0 := Aside0.mk hr0
  have HC0 := Aside0.mk hc0
  clear hr0 hc0
  have HR1 := Aside0.mk hr1
  have HC1 := Aside0.mk hc1
  clear hr1 hc1
  have HB := Aside0.mk (Below.refl w.heap.size w)
  have H : ((vec_fit.f k l0 l1).bind fun t127 => (if t127 = 0 then (vec_Dot.l0 k l1 0 l0 (l0.length : Int) 0) else (some (0, t127)))) = some (r1, r2) := h
  clear h
  replace H := Option.bind_eq_some_iff.mp H
  obtain ⟨t127, A30, H⟩ := H
  replace H : (if t127 = 0 then (vec_Dot.l0 k l1 0 l0 (l0.length : Int) 0) else (some (0, t127))) = some (r1, r2) := H
  have A3 := Aside0.mk A30
  clear A30
  by_cases c4 : t127 = 0
  · rw [if_pos c4] at H
    have c4b0 : (t127 == 0) = true := beq_iff_eq.mpr c4
    have c4b1 : (t127 != 0) = false := bne_eq_false_iff_eq.mpr c4
    clear c4
    have H' := Aside0.mk H
    clear H
    go_enter Try.func59, Try.ntmps59
    go_wp2_with (first | ((with_reducible refine gate_callee (f := 79) rfl ?_); refine goesL_ (some 12) rfl rfl Try.func79 (by kernel_rfl) rfl #[.slice A0 l0.length c0, .slice A1 l1.length c1] rfl (by (try simp only [List.map_toArray, List.map_cons, List.map_nil]); first | done | rfl | (simp only [List.length_drop, List.length_take]; rfl)) ?_; (with_reducible refine (vec_fit.calls k _ _ l0 _ _ l1 t127 _ ?side1 ?side2 ?side3 ?side4 A3.out).mono ?_); (case side1 => repeat (first | exact HR0.out | (with_reducible refine Kd.C_alloc ?_ _) | (with_reducible refine Kd.C_drewN ?_ _) | (with_reducible refine Kd.C_drew ?_))); (case side2 => exact HC0.out); (case side3 => repeat (first | exact HR1.out | (with_reducible refine Kd.C_alloc ?_ _) | (with_reducible refine Kd.C_drewN ?_ _) | (with_reducible refine Kd.C_drew ?_))); (case side4 => exact HC1.out); rintro e w' ⟨rfl, ⟨nd, rfl⟩⟩; refine ⟨_, rfl, ?_⟩))
    go_loopg [7, 18] k (fun kq v7 v18 w' => ∃ (x7_1 : Int) (x18_1 : Int), v7 = .int .i64 x7_1 ∧ v18 = .int .i64 x18_1 ∧ Aside0 (vec_Dot.l0 kq l1 x7_1 l0 (l0.length : Int) x18_1 = some (r1, r2)) ∧ Aside0 (kq ≤ k) ∧ Aside0 (Below w.heap.size w w'))
    case atStart => exact ⟨(0), (0), (by first | rfl | (simp; done) | (simp [*]; done)), (by first | rfl | (simp; done) | (simp [*]; done)), H', ⟨Nat.le_refl _⟩, ⟨by repeat (first | (with_reducible first | exact HB.out | apply below_alloc | apply pw_below_drewN | apply below_drew1) | exact HB.out)⟩⟩
    case round =>
      clear H'
      try clear c1
      try clear p2
      try clear c4
      try clear c4b0
      try clear c4b1
      obtain ⟨x7_1, x18_1, rfl, rfl, HA, HK1, HB⟩ := hrel
      cases gk with
      | zero => exact absurd HA.out (by simp [vec_Dot.l0])
      | succ k1 =>
        have H := HA.out
        clear HA
        simp only [vec_Dot.l0] at H
        by_cases c5 : x18_1 < (l0.length : Int)
        · rw [if_pos c5] at H
          have c5b0 : decide (x18_1 < (l0.length : Int)) = true := decide_eq_true c5
          clear c5
          by_cases c6 : 0 ≤ x18_1
          · rw [if_pos c6] at H
            have c6b0 : decide (0 ≤ x18_1) = true := decide_eq_true c6
            clear c6
            by_cases c7 : x18_1 < (l0.length : Int)
            · rw [if_pos c7] at H
              have c7b0 : decide (x18_1 < (l0.length : Int)) = true := decide_eq_true c7
              clear c7
              by_cases c8 : x18_1 < (l1.length : Int)
              · rw [if_pos c8] at H
                have c8b0 : decide (x18_1 < (l1.length : Int)) = true := decide_eq_true c8
                clear c8
                replace H := Option.bind_eq_some_iff.mp H
                obtain ⟨t130, A90, H⟩ := H
                replace H : (vec_Dot.l0 k1 l1 t130 l0 (l0.length : Int) (wrap64 (x18_1 + 1))) = some (r1, r2) := H
                have A9 := Aside0.mk A90
                clear A90
                have H' := Aside0.mk H
                clear H
                have p128 : 0 ≤ (x18_1 : Int) := of_decide_eq_true (by first | (with_reducible assumption) | assumption)
                have q128 : x18_1 < (l0.length : Int) := of_decide_eq_true (by first | (with_reducible assumption) | assumption)
                obtain ⟨ad128, e128, hx128_0⟩ := Kd.at_int HR0.out x18_1 p128 q128
                cases e128
                (first | replace hx128_0 := (HB.out.cell (World.block_lt_of_cell? w _ hx128_0)).trans hx128_0 | skip)
                replace p128 := eq_true p128
                replace q128 := eq_true q128
                have p129 : 0 ≤ (x18_1 : Int) := of_decide_eq_true (by first | (with_reducible assumption) | assumption)
                have q129 : x18_1 < (l1.length : Int) := of_decide_eq_true (by first | (with_reducible assumption) | assumption)
                obtain ⟨ad129, e129, hx129_0⟩ := Kd.at_int HR1.out x18_1 p129 q129
                cases e129
                (first | replace hx129_0 := (HB.out.cell (World.block_lt_of_cell? w _ hx129_0)).trans hx129_0 | skip)
                replace p129 := eq_true p129
                replace q129 := eq_true q129
                go_wp2_with (first | ((with_reducible refine gate_callee (f := 71) rfl ?_); refine goesL_ (some 32) rfl rfl Try.func71 (by kernel_rfl) rfl #[.int .i64 x7_1, .int .i64 (wrap64 ((wrap64 (rd l0 x18_1)) * (wrap64 (rd l1 x18_1))))] rfl (by (try simp only [List.map_toArray, List.map_cons, List.map_nil]); first | done | rfl | (simp only [List.length_drop, List.length_take]; rfl)) ?_; (with_reducible refine (vec_Grow.calls k1 x7_1 (wrap64 ((wrap64 (rd l0 x18_1)) * (wrap64 (rd l1 x18_1)))) t130 _ A9.out).mono ?_); rintro e w10 ⟨rfl, hb⟩; refine ⟨_, rfl, ?_⟩; have n0_ := Aside0.mk (below_step (by repeat (first | (with_reducible first | exact HB.out | apply below_alloc | apply pw_below_drewN | apply below_drew1) | exact HB.out)) hb); clear HB; have HB := n0_; clear n0_; (try clear hb); (try clear hb2); (try clear hk); (try clear hi)))
                go_roundg k1
                case measure => have := HK1.out; omega
                case rel => exact ⟨(t130), (wrap64 (x18_1 + 1)), (by first | rfl | (simp; done) | (simp [*]; done)), (by first | rfl | (simp; done) | (simp [*]; done)), H', ⟨by have := HK1.out; omega⟩, ⟨by repeat (first | (with_reducible first | exact HB.out | apply below_alloc | apply pw_below_drewN | apply below_drew1) | exact HB.out)⟩⟩
              · rw [if_neg c8] at H
                exact absurd H (by simp)
            · rw [if_neg c7] at H
              exact absurd H (by simp)
          · rw [if_neg c6] at H
            exact absurd H (by simp)
        · rw [if_neg c5] at H
          have c5b0 : decide (x18_1 < (l0.length : Int)) = false := decide_eq_false c5
          clear c5
          replace H := Option.bind_eq_some_iff.mp H
          obtain ⟨t131, A110, H⟩ := H
          replace H : ((fix_Sat.f t131).bind fun t132 => (some (t132, 0))) = some (r1, r2) := H
          have A11 := Aside0.mk A110
          clear A110
          replace H := Option.bind_eq_some_iff.mp H
          obtain ⟨t132, A120, H⟩ := H
          replace H : (some (t132, 0)) = some (r1, r2) := H
          have A12 := Aside0.mk A120
          clear A120
          simp only [Option.some.injEq, Prod.mk.injEq] at H
          obtain ⟨rfl, rfl⟩ := H
          go_wp2_with (first | ((with_reducible refine gate_callee (f := 73) rfl ?_); refine goesL_ (some 35) rfl rfl Try.func73 (by kernel_rfl) rfl #[.int .i64 x7_1, .int .i64 65536] rfl (by (try simp only [List.map_toArray, List.map_cons, List.map_nil]); first | done | rfl | (simp only [List.length_drop, List.length_take]; rfl)) ?_; (with_reducible refine (fix_Round.calls k1 x7_1 65536 t131 _ A11.out).mono ?_); rintro e w' ⟨rfl, ⟨nd, rfl⟩⟩; refine ⟨_, rfl, ?_⟩) | ((with_reducible refine gate_callee (f := 72) rfl ?_); refine goesL_ (some 36) rfl rfl Try.func72 (by kernel_rfl) rfl #[.int .i64 t131] rfl (by (try simp only [List.map_toArray, List.map_cons, List.map_nil]); first | done | rfl | (simp only [List.length_drop, List.length_take]; rfl)) ?_; (with_reducible refine (fix_Sat.calls t131 t132 _ A12.out).mono ?_); rintro e w13 ⟨rfl, hb⟩; refine ⟨_, rfl, ?_⟩; have n0_ := Aside0.mk (below_step (by repeat (first | (with_reducible first | exact HB.out | apply below_alloc | apply pw_below_drewN | apply below_drew1) | exact HB.out)) hb); clear HB; have HB := n0_; clear n0_; (try clear hb); (try clear hb2); (try clear hk); (try clear hi)))
          go_ret2
          exact ⟨by first | rfl | (simp [errW_none, errW_some] <;> rfl) | (simp [*, errW_none, errW_some] <;> rfl), by repeat (first | (with_reducible first | exact HB.out | apply below_alloc | apply pw_below_drewN | apply below_drew1) | exact HB.out)⟩
  · rw [if_neg c4] at H
    have c4b0 : (t127 == 0) = false := beq_eq_false_iff_ne.mpr c4
    have c4b1 : (t127 != 0) = true := bne_iff_ne.mpr c4
    simp only [Option.some.injEq, Prod.mk.injEq] at H
    obtain ⟨rfl, rfl⟩ := H
    go_enter Try.func59, Try.ntmps59
    go_wp2_with (first | ((with_reducible refine gate_callee (f := 79) rfl ?_); refine goesL_ (some 12) rfl rfl Try.func79 (by kernel_rfl) rfl #[.slice A0 l0.length c0, .slice A1 l1.length c1] rfl (by (try simp only [List.map_toArray, List.map_cons, List.map_nil]); first | done | rfl | (simp only [List.length_drop, List.length_take]; rfl)) ?_; (with_reducible refine (vec_fit.calls k _ _ l0 _ _ l1 t127 _ ?side1 ?side2 ?side3 ?side4 A3.out).mono ?_); (case side1 => repeat (first | exact HR0.out | (with_reducible refine Kd.C_alloc ?_ _) | (with_reducible refine Kd.C_drewN ?_ _) | (with_reducible refine Kd.C_drew ?_))); (case side2 => exact HC0.out); (case side3 => repeat (first | exact HR1.out | (with_reducible refine Kd.C_alloc ?_ _) | (with_reducible refine Kd.C_drewN ?_ _) | (with_reducible refine Kd.C_drew ?_))); (case side4 => exact HC1.out); rintro e w' ⟨rfl, ⟨nd, rfl⟩⟩; refine ⟨_, rfl, ?_⟩))
    go_ret2
    exact ⟨by first | rfl | (simp [errW_none, errW_some] <;> rfl) | (simp [*, errW_none, errW_some] <;> rfl), by repeat (first | (with_reducible first | exact HB.out | apply below_alloc | apply pw_below_drewN | apply below_drew1) | exact HB.out)⟩

/-! ### fix_Mul: function 60 -/
def fix_Mul.f (k : Nat) (a0 : Int) (a1 : Int) : Option (Int) := (fix_Round.f k (wrap64 ((wrap64 (a0)) * (wrap64 (a1)))) 65536).bind fun t133 => ((fix_Sat.f t133).bind fun t134 => (some t134))
theorem fix_Mul.mono : ∀ a0 a1 k, LeO (fix_Mul.f k a0 a1) (fix_Mul.f (k + 1) a0 a1) := by
  intro a0 a1 k
  unfold fix_Mul.f
  repeat' first
      | (with_reducible exact fix_Round.mono _ _ _)
      | (with_reducible exact LeO.refl _)
      | (with_reducible exact LeO.none _)
      | (with_reducible refine LeO.ite ?_ ?_)
      | (with_reducible refine LeO.bind ?_ (fun _ => ?_))
      | exact fix_Round.mono _ _ _
      | exact LeO.none _
      | refine LeO.ite ?_ ?_
      | refine LeO.bind ?_ (fun _ => ?_)
set_option maxHeartbeats 8000000 in
set_option maxRecDepth 100000 in
theorem fix_Mul.calls (k : Nat) (a0 : Int) (a1 : Int) (r : Int) (w : World) (h : fix_Mul.f k a0 a1 = some r) :
    Calls Try.prog 60 #[.int .i32 a0, .int .i32 a1] w fun e w' => e = .returned (.int .i32 r) ∧ Below w.heap.size w w' := by
  have HB := Aside0.mk (Below.refl w.heap.size w)
  have H : ((fix_Round.f k (wrap64 ((wrap64 (a0)) * (wrap64 (a1)))) 65536).bind fun t133 => ((fix_Sat.f t133).bind fun t134 => (some t134))) = some r := h
  clear h
  replace H := Option.bind_eq_some_iff.mp H
  obtain ⟨t133, A30, H⟩ := H
  replace H : ((fix_Sat.f t133).bind fun t134 => (some t134)) = some r := H
  have A3 := Aside0.mk A30
  clear A30
  replace H := Option.bind_eq_some_iff.mp H
  obtain ⟨t134, A40, H⟩ := H
  replace H : (some t134) = some r := H
  have A4 := Aside0.mk A40
  clear A40
  obtain rfl := Option.some.inj H
  go_enter Try.func60, Try.ntmps60
  go_wp2_with (first | ((with_reducible refine gate_callee (f := 73) rfl ?_); refine goesL_ (some 10) rfl rfl Try.func73 (by kernel_rfl) rfl #[.int .i64 (wrap64 ((wrap64 (a0)) * (wrap64 (a1)))), .int .i64 65536] rfl (by (try simp only [List.map_toArray, List.map_cons, List.map_nil]); first | done | rfl | (simp only [List.length_drop, List.length_take]; rfl)) ?_; (with_reducible refine (fix_Round.calls k (wrap64 ((wrap64 (a0)) * (wrap64 (a1)))) 65536 t133 _ A3.out).mono ?_); rintro e w' ⟨rfl, ⟨nd, rfl⟩⟩; refine ⟨_, rfl, ?_⟩) | ((with_reducible refine gate_callee (f := 72) rfl ?_); refine goesL_ (some 11) rfl rfl Try.func72 (by kernel_rfl) rfl #[.int .i64 t133] rfl (by (try simp only [List.map_toArray, List.map_cons, List.map_nil]); first | done | rfl | (simp only [List.length_drop, List.length_take]; rfl)) ?_; (with_reducible refine (fix_Sat.calls t133 t134 _ A4.out).mono ?_); rintro e w5 ⟨rfl, hb⟩; refine ⟨_, rfl, ?_⟩; have n0_ := Aside0.mk (below_step (by repeat (first | (with_reducible first | exact HB.out | apply below_alloc | apply pw_below_drewN | apply below_drew1) | exact HB.out)) hb); clear HB; have HB := n0_; clear n0_; (try clear hb); (try clear hb2); (try clear hk); (try clear hi)))
  go_ret
  exact ⟨by first | rfl | (simp [errW_none, errW_some] <;> rfl) | (simp [*, errW_none, errW_some] <;> rfl), by repeat (first | (with_reducible first | exact HB.out | apply below_alloc | apply pw_below_drewN | apply below_drew1) | exact HB.out)⟩

/-! ### heads_Scores: function 33 -/
def heads_Scores.l0 : Nat → List Int → Int → List Int → List (List Int) → Int → Int → Option (List Int × Int)
  | 0, _, _, _, _, _, _ => none
  | k + 1, x0, x6, x7, x16, x17, x18 => if x18 < x17 then (if 0 ≤ x18 then (if x18 < (x16.length : Int) then ((vec_Dot.f k x0 (rd_L1 x16 x18)).bind fun bt138 => (if bt138.2 = 0 then ((fix_Mul.f k bt138.1 x6).bind fun t140 => (if x7.length < 35184372088832 then (heads_Scores.l0 k x0 x6 (x7 ++ [t140]) x16 x17 (wrap64 (x18 + 1))) else (none))) else (some (([] : List Int), bt138.2)))) else (none)) else (none)) else (some (x7, 0))
def heads_Scores.f (k : Nat) (l0 : List Int) (l1 : List (List Int)) : Option (List Int × Int) := (fix_Of.f (l0.length : Int)).bind fun t135 => ((curve_Inverse.f k t135).bind fun t136 => (heads_Scores.l0 k l0 t136 ([] : List Int) l1 (l1.length : Int) 0))
theorem heads_Scores.mono_l : ∀ k, (∀ y0 y1 y2 y3 y4 y5, LeO (heads_Scores.l0 k y0 y1 y2 y3 y4 y5) (heads_Scores.l0 (k + 1) y0 y1 y2 y3 y4 y5))
  | 0 => fun _ _ _ _ _ _ r h => by simp [heads_Scores.l0] at h
  | k + 1 => by
    have ih0 := heads_Scores.mono_l k
    · intro y0 y1 y2 y3 y4 y5
      unfold heads_Scores.l0
      repeat' first
      | (with_reducible exact ih0 _ _ _ _ _ _)
      | (with_reducible exact curve_Inverse.mono _ _)
      | (with_reducible exact fix_Mul.mono _ _ _)
      | (with_reducible exact vec_Dot.mono _ _ _)
      | (with_reducible exact LeO.refl _)
      | (with_reducible exact LeO.none _)
      | (with_reducible refine LeO.ite ?_ ?_)
      | (with_reducible refine LeO.bind ?_ (fun _ => ?_))
      | exact ih0 _ _ _ _ _ _
      | exact curve_Inverse.mono _ _
      | exact fix_Mul.mono _ _ _
      | exact vec_Dot.mono _ _ _
      | exact LeO.none _
      | refine LeO.ite ?_ ?_
      | refine LeO.bind ?_ (fun _ => ?_)
theorem heads_Scores.mono : ∀ a0 a1 k, LeO (heads_Scores.f k a0 a1) (heads_Scores.f (k + 1) a0 a1) := by
  intro a0 a1 k
  have ih0 := heads_Scores.mono_l k
  unfold heads_Scores.f
  repeat' first
      | (with_reducible exact ih0 _ _ _ _ _ _)
      | (with_reducible exact curve_Inverse.mono _ _)
      | (with_reducible exact fix_Mul.mono _ _ _)
      | (with_reducible exact vec_Dot.mono _ _ _)
      | (with_reducible exact LeO.refl _)
      | (with_reducible exact LeO.none _)
      | (with_reducible refine LeO.ite ?_ ?_)
      | (with_reducible refine LeO.bind ?_ (fun _ => ?_))
      | exact ih0 _ _ _ _ _ _
      | exact curve_Inverse.mono _ _
      | exact fix_Mul.mono _ _ _
      | exact vec_Dot.mono _ _ _
      | exact LeO.none _
      | refine LeO.ite ?_ ?_
      | refine LeO.bind ?_ (fun _ => ?_)
set_option maxHeartbeats 8000000 in
set_option maxRecDepth 100000 in
theorem heads_Scores.calls (k : Nat) (A0 : Option Addr) (c0 : Nat) (l0 : List Int) (A1 : Option Addr) (c1 : Nat) (l1 : List (List Int)) (r1 : List Int) (r2 : Int) (w : World) (hr0 : Kd.C (Kd.int .i32) w A0 l0.length l0) (hc0 : l0.length ≤ c0) (hr1 : Kd.C (Kd.slice 72 (Kd.int .i32)) w A1 l1.length l1) (hc1 : l1.length ≤ c1) (h : heads_Scores.f k l0 l1 = some (r1, r2)) :
    Calls Try.prog 33 #[.slice A0 l0.length c0, .slice A1 l1.length c1] w fun e w' => ∃ v0_ : Value, e = .returned (.tuple #[v0_, .int .i64 r2]) ∧ Kd.R (Kd.int .i32) 72 w' w.heap.size (fun _ => True) v0_ r1 ∧ Below w.heap.size w w' := by
  have HR0 := Aside0.mk hr0
  have HC0 := Aside0.mk hc0
  clear hr0 hc0
  have HR1 := Aside0.mk hr1
  have HC1 := Aside0.mk hc1
  clear hr1 hc1
  have HB := Aside0.mk (Below.refl w.heap.size w)
  have H : ((fix_Of.f (l0.length : Int)).bind fun t135 => ((curve_Inverse.f k t135).bind fun t136 => (heads_Scores.l0 k l0 t136 ([] : List Int) l1 (l1.length : Int) 0))) = some (r1, r2) := h
  clear h
  replace H := Option.bind_eq_some_iff.mp H
  obtain ⟨t135, A30, H⟩ := H
  replace H : ((curve_Inverse.f k t135).bind fun t136 => (heads_Scores.l0 k l0 t136 ([] : List Int) l1 (l1.length : Int) 0)) = some (r1, r2) := H
  have A3 := Aside0.mk A30
  clear A30
  replace H := Option.bind_eq_some_iff.mp H
  obtain ⟨t136, A40, H⟩ := H
  replace H : (heads_Scores.l0 k l0 t136 ([] : List Int) l1 (l1.length : Int) 0) = some (r1, r2) := H
  have A4 := Aside0.mk A40
  clear A40
  have H' := Aside0.mk H
  clear H
  go_enter Try.func33, Try.ntmps33
  go_wp2_with (first | ((with_reducible refine gate_callee (f := 58) rfl ?_); refine goesL_ (some 14) rfl rfl Try.func58 (by kernel_rfl) rfl #[.int .i64 (l0.length : Int)] rfl (by (try simp only [List.map_toArray, List.map_cons, List.map_nil]); first | done | rfl | (simp only [List.length_drop, List.length_take]; rfl)) ?_; (with_reducible refine (fix_Of.calls (l0.length : Int) t135 _ A3.out).mono ?_); rintro e w5 ⟨rfl, hb⟩; refine ⟨_, rfl, ?_⟩; have n0_ := Aside0.mk (below_step (by repeat (first | (with_reducible first | exact HB.out | apply below_alloc | apply pw_below_drewN | apply below_drew1) | exact HB.out)) hb); clear HB; have HB := n0_; clear n0_; (try clear hb); (try clear hb2); (try clear hk); (try clear hi)) | ((with_reducible refine gate_callee (f := 57) rfl ?_); refine goesL_ (some 15) rfl rfl Try.func57 (by kernel_rfl) rfl #[.int .i32 t135] rfl (by (try simp only [List.map_toArray, List.map_cons, List.map_nil]); first | done | rfl | (simp only [List.length_drop, List.length_take]; rfl)) ?_; (with_reducible refine (curve_Inverse.calls k t135 t136 _ A4.out).mono ?_); rintro e w' ⟨rfl, ⟨nd, rfl⟩⟩; refine ⟨_, rfl, ?_⟩))
  go_loopg [7, 18] k (fun kq v7 v18 w' => ∃ (x7_1 : List Int) (x18_1 : Int), v18 = .int .i64 x18_1 ∧ Aside0 (heads_Scores.l0 kq l0 t136 x7_1 l1 (l1.length : Int) x18_1 = some (r1, r2)) ∧ Aside0 (kq ≤ k) ∧ Aside0 (Kd.R (Kd.int .i32) 72 w' w.heap.size (fun _ => True) v7 x7_1) ∧ Aside0 (Below w.heap.size w w'))
  case atStart => exact ⟨(([] : List Int)), (0), (by first | rfl | (simp; done) | (simp [*]; done)), H', ⟨Nat.le_refl _⟩, ⟨by first | exact Kd.R_nil _ _ _ _ _ | exact Kd.N_nil _ _ _ _ _ | exact Kd.V_nil _ _ _ _ _ | exact Kd.Q_nil _ _ _ _ _ | exact Kd.S_nil _ _ _ _ _⟩, ⟨by repeat (first | (with_reducible first | exact HB.out | apply below_alloc | apply pw_below_drewN | apply below_drew1) | exact HB.out)⟩⟩
  case round =>
    clear H'
    try clear c1
    try clear p2
    try clear c3
    try clear c5
    obtain ⟨x7_1, x18_1, rfl, HA, HK1, HO_7, HB⟩ := hrel
    cases gk with
    | zero => exact absurd HA.out (by simp [heads_Scores.l0])
    | succ k1 =>
      have H := HA.out
      clear HA
      simp only [heads_Scores.l0] at H
      by_cases c6 : x18_1 < (l1.length : Int)
      · rw [if_pos c6] at H
        have c6b0 : decide (x18_1 < (l1.length : Int)) = true := decide_eq_true c6
        clear c6
        by_cases c7 : 0 ≤ x18_1
        · rw [if_pos c7] at H
          have c7b0 : decide (0 ≤ x18_1) = true := decide_eq_true c7
          clear c7
          by_cases c8 : x18_1 < (l1.length : Int)
          · rw [if_pos c8] at H
            have c8b0 : decide (x18_1 < (l1.length : Int)) = true := decide_eq_true c8
            clear c8
            replace H := Option.bind_eq_some_iff.mp H
            obtain ⟨⟨t138, t139⟩, A90, H⟩ := H
            replace H : (if t139 = 0 then ((fix_Mul.f k1 t138 t136).bind fun t140 => (if x7_1.length < 35184372088832 then (heads_Scores.l0 k1 l0 t136 (x7_1 ++ [t140]) l1 (l1.length : Int) (wrap64 (x18_1 + 1))) else (none))) else (some (([] : List Int), t139))) = some (r1, r2) := H
            have A9 := Aside0.mk A90
            clear A90
            by_cases c10 : t139 = 0
            · rw [if_pos c10] at H
              have c10b0 : (t139 == 0) = true := beq_iff_eq.mpr c10
              have c10b1 : (t139 != 0) = false := bne_eq_false_iff_eq.mpr c10
              clear c10
              replace H := Option.bind_eq_some_iff.mp H
              obtain ⟨t140, A110, H⟩ := H
              replace H : (if x7_1.length < 35184372088832 then (heads_Scores.l0 k1 l0 t136 (x7_1 ++ [t140]) l1 (l1.length : Int) (wrap64 (x18_1 + 1))) else (none)) = some (r1, r2) := H
              have A11 := Aside0.mk A110
              clear A110
              by_cases c12 : x7_1.length < 35184372088832
              · rw [if_pos c12] at H
                have LMc12 := Aside0.mk c12
                clear c12
                obtain ⟨y141, hy141⟩ : ∃ y_ : List Int, y_ = (x7_1 ++ [t140]) := ⟨_, rfl⟩
                replace H : (heads_Scores.l0 k1 l0 t136 y141 l1 (l1.length : Int) (wrap64 (x18_1 + 1))) = some (r1, r2) := by first | (rw [hy141]; with_reducible exact H) | (have H2_ := (Option.bind_some _ _).symm.trans H; rw [hy141]; with_reducible exact H2_) | (have H2_ := (Option.bind_some _ _).symm.trans H; with_reducible exact H2_) | with_reducible exact H | (rw [hy141]; exact H) | exact H
                have Ny141 := Aside0.mk hy141
                clear hy141
                have H' := Aside0.mk H
                clear H
                have p137 : 0 ≤ (x18_1 : Int) := of_decide_eq_true (by first | (with_reducible assumption) | assumption)
                have q137 : x18_1 < (l1.length : Int) := of_decide_eq_true (by first | (with_reducible assumption) | assumption)
                obtain ⟨ad137, A137_0, c137_0, e137, hx137_0, hl137_0, hi137_0⟩ := at_L1 HR1.out x18_1 p137 q137
                cases e137
                (first | replace hx137_0 := (HB.out.cell (World.block_lt_of_cell? w _ hx137_0)).trans hx137_0 | skip)
                have HR137_0 := Aside0.mk hi137_0
                have HC137_0 := Aside0.mk hl137_0
                clear hi137_0 hl137_0
                replace p137 := eq_true p137
                replace q137 := eq_true q137
                go_wp2_with (first | ((with_reducible refine gate_callee (f := 59) rfl ?_); refine goesL_ (some 25) rfl rfl Try.func59 (by kernel_rfl) rfl #[.slice A0 l0.length c0, .slice A137_0 (rd_L1 l1 x18_1).length c137_0] rfl (by (try simp only [List.map_toArray, List.map_cons, List.map_nil]); first | done | rfl | (simp only [List.length_drop, List.length_take]; rfl)) ?_; (with_reducible refine (vec_Dot.calls k1 _ _ l0 _ _ (rd_L1 l1 x18_1) t138 t139 _ ?side1 ?side2 ?side3 ?side4 A9.out).mono ?_); (case side1 => repeat (first | exact (Kd.C_below HR0.out HB.out) | (with_reducible refine Kd.C_alloc ?_ _) | (with_reducible refine Kd.C_drewN ?_ _) | (with_reducible refine Kd.C_drew ?_))); (case side2 => exact HC0.out); (case side3 => repeat (first | exact (Kd.C_below HR137_0.out HB.out) | (with_reducible refine Kd.C_alloc ?_ _) | (with_reducible refine Kd.C_drewN ?_ _) | (with_reducible refine Kd.C_drew ?_))); (case side4 => exact HC137_0.out); rintro e w13 ⟨rfl, hb⟩; refine ⟨_, rfl, ?_⟩; have n0_ := Aside0.mk (Kd.R_below (by (with_reducible repeat (first | apply Kd.R_alloc | apply Kd.R_drewN | apply Kd.R_drew)); exact HO_7.out) hb); have n1_ := Aside0.mk (below_step (by repeat (first | (with_reducible first | exact HB.out | apply below_alloc | apply pw_below_drewN | apply below_drew1) | exact HB.out)) hb); clear HO_7; clear HB; have HO_7 := n0_; have HB := n1_; clear n0_ n1_; (try clear hb); (try clear hb2); (try clear hk); (try clear hi)) | ((with_reducible refine gate_callee (f := 60) rfl ?_); refine goesL_ (some 34) rfl rfl Try.func60 (by kernel_rfl) rfl #[.int .i32 t138, .int .i32 t136] rfl (by (try simp only [List.map_toArray, List.map_cons, List.map_nil]); first | done | rfl | (simp only [List.length_drop, List.length_take]; rfl)) ?_; (with_reducible refine (fix_Mul.calls k1 t138 t136 t140 _ A11.out).mono ?_); rintro e w14 ⟨rfl, hb⟩; refine ⟨_, rfl, ?_⟩; have n0_ := Aside0.mk (Kd.R_below (by (with_reducible repeat (first | apply Kd.R_alloc | apply Kd.R_drewN | apply Kd.R_drew)); exact HO_7.out) hb); have n1_ := Aside0.mk (below_step (by repeat (first | (with_reducible first | exact HB.out | apply below_alloc | apply pw_below_drewN | apply below_drew1) | exact HB.out)) hb); clear HO_7; clear HB; have HO_7 := n0_; have HB := n1_; clear n0_ n1_; (try clear hb); (try clear hb2); (try clear hk); (try clear hi)) | ((with_reducible refine gate_builtin (b := .append) (xs := #[.tmp 31, .tmp 35]) rfl ?_); at_builtin; refine Kd.R_append (Kd.int .i32) (w0 := w) w.heap.size rfl (.tmp 31) (.tmp 35) 61 72 (.int .i32 0) 4 rfl Try.underlying61 info72 rfl (by decide) (by omega) u7 x7_1 t140 [.int .i32 t140] (fun _ => True) (fun _ => False) rfl rfl ?aP (fun _ hk => hk.elim) ?aF ?aO ?aB ?aS ?aL ?_; (case aP => exact rfl); (case aB => exact (by repeat (first | (with_reducible first | exact HB.out | apply below_alloc | apply pw_below_drewN | apply below_drew1) | exact HB.out))); (case aF => exact (fun _ _ => trivial)); (case aO => exact (by (with_reducible repeat (first | apply Kd.R_alloc | apply Kd.R_drewN | apply Kd.R_drew)); exact HO_7.out)); (case aS => exact (below_size (by repeat (first | (with_reducible first | exact HB.out | apply below_alloc | apply pw_below_drewN | apply below_drew1) | exact HB.out)))); (case aL => have := LMc12.out; omega); intro v142 w15 ho hb hg hat; rw [← Ny141.out] at ho; have n0_ := Aside0.mk (hb); have n1_ := Aside0.mk (ho); clear HB; clear HO_7; have HB := n0_; have HO143 := n1_; clear n0_ n1_; clear ho hb hg hat))
                go_roundg k1
                case measure => have := HK1.out; omega
                case rel => exact ⟨(y141), (wrap64 (x18_1 + 1)), (by first | rfl | (simp; done) | (simp [*]; done)), H', ⟨by have := HK1.out; omega⟩, ⟨by (with_reducible repeat (first | apply Kd.R_alloc | apply Kd.R_drewN | apply Kd.R_drew)); exact HO143.out⟩, ⟨by repeat (first | (with_reducible first | exact HB.out | apply below_alloc | apply pw_below_drewN | apply below_drew1) | exact HB.out)⟩⟩
              · rw [if_neg c12] at H
                exact absurd H (by simp)
            · rw [if_neg c10] at H
              have c10b0 : (t139 == 0) = false := beq_eq_false_iff_ne.mpr c10
              have c10b1 : (t139 != 0) = true := bne_iff_ne.mpr c10
              simp only [Option.some.injEq, Prod.mk.injEq] at H
              obtain ⟨rfl, rfl⟩ := H
              have p137 : 0 ≤ (x18_1 : Int) := of_decide_eq_true (by first | (with_reducible assumption) | assumption)
              have q137 : x18_1 < (l1.length : Int) := of_decide_eq_true (by first | (with_reducible assumption) | assumption)
              obtain ⟨ad137, A137_0, c137_0, e137, hx137_0, hl137_0, hi137_0⟩ := at_L1 HR1.out x18_1 p137 q137
              cases e137
              (first | replace hx137_0 := (HB.out.cell (World.block_lt_of_cell? w _ hx137_0)).trans hx137_0 | skip)
              have HR137_0 := Aside0.mk hi137_0
              have HC137_0 := Aside0.mk hl137_0
              clear hi137_0 hl137_0
              replace p137 := eq_true p137
              replace q137 := eq_true q137
              go_wp2_with (first | ((with_reducible refine gate_callee (f := 59) rfl ?_); refine goesL_ (some 25) rfl rfl Try.func59 (by kernel_rfl) rfl #[.slice A0 l0.length c0, .slice A137_0 (rd_L1 l1 x18_1).length c137_0] rfl (by (try simp only [List.map_toArray, List.map_cons, List.map_nil]); first | done | rfl | (simp only [List.length_drop, List.length_take]; rfl)) ?_; (with_reducible refine (vec_Dot.calls k1 _ _ l0 _ _ (rd_L1 l1 x18_1) t138 t139 _ ?side1 ?side2 ?side3 ?side4 A9.out).mono ?_); (case side1 => repeat (first | exact (Kd.C_below HR0.out HB.out) | (with_reducible refine Kd.C_alloc ?_ _) | (with_reducible refine Kd.C_drewN ?_ _) | (with_reducible refine Kd.C_drew ?_))); (case side2 => exact HC0.out); (case side3 => repeat (first | exact (Kd.C_below HR137_0.out HB.out) | (with_reducible refine Kd.C_alloc ?_ _) | (with_reducible refine Kd.C_drewN ?_ _) | (with_reducible refine Kd.C_drew ?_))); (case side4 => exact HC137_0.out); rintro e w16 ⟨rfl, hb⟩; refine ⟨_, rfl, ?_⟩; have n0_ := Aside0.mk (Kd.R_below (by (with_reducible repeat (first | apply Kd.R_alloc | apply Kd.R_drewN | apply Kd.R_drew)); exact HO_7.out) hb); have n1_ := Aside0.mk (below_step (by repeat (first | (with_reducible first | exact HB.out | apply below_alloc | apply pw_below_drewN | apply below_drew1) | exact HB.out)) hb); clear HO_7; clear HB; have HO_7 := n0_; have HB := n1_; clear n0_ n1_; (try clear hb); (try clear hb2); (try clear hk); (try clear hi)))
              go_ret2
              exact ⟨_, by first | rfl | (simp [errW_none, errW_some] <;> rfl) | (simp [*, errW_none, errW_some] <;> rfl), by first | exact Kd.R_nil _ _ _ _ _ | exact Kd.N_nil _ _ _ _ _ | exact Kd.V_nil _ _ _ _ _ | exact Kd.Q_nil _ _ _ _ _ | exact Kd.S_nil _ _ _ _ _, by repeat (first | (with_reducible first | exact HB.out | apply below_alloc | apply pw_below_drewN | apply below_drew1) | exact HB.out)⟩
          · rw [if_neg c8] at H
            exact absurd H (by simp)
        · rw [if_neg c7] at H
          exact absurd H (by simp)
      · rw [if_neg c6] at H
        have c6b0 : decide (x18_1 < (l1.length : Int)) = false := decide_eq_false c6
        clear c6
        simp only [Option.some.injEq, Prod.mk.injEq] at H
        obtain ⟨rfl, rfl⟩ := H
        go_wp2
        go_ret2
        exact ⟨_, by first | rfl | (simp [errW_none, errW_some] <;> rfl) | (simp [*, errW_none, errW_some] <;> rfl), by (with_reducible repeat (first | apply Kd.R_alloc | apply Kd.R_drewN | apply Kd.R_drew)); exact HO_7.out, by repeat (first | (with_reducible first | exact HB.out | apply below_alloc | apply pw_below_drewN | apply below_drew1) | exact HB.out)⟩

end Go.Proofs.Ytepbebelbcbciaa.Q
