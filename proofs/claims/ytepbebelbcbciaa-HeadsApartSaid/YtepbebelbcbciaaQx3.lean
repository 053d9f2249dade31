/- Functions of the program as plain Lean functions, each with a proof that the program's call comes to what it says; and rows of statements over them. No condition but those that the theorems name. Written by a program of this session (myprint.py, over the kit's print with patches of its own). -/
import Derived.Test.YtepbebelbcbciaaQx0
namespace Go.Proofs.Ytepbebelbcbciaa.Q
open Go.RowKit Go.Proofs.YtepbebelbcbciaaW.PrintWords Go.Proofs.YtepbebelbcbciaaW.PrintLast Go.Proofs.YtepbebelbcbciaaW.PrintMore
attribute [local go_sem] max2_int min2_int max_two min_two max_three min_three max_four min_four   -- for this text's walks alone
set_option linter.unusedVariables false
set_option linter.unusedSimpArgs false

/-! ### heads_fit: function 51 -/
mutual
def heads_fit.j0 : Nat → List Int → List (List Int) → List (List Int) → Int → Bool → Option (Int)
  | 0, _, _, _, _, _ => none
  | k + 1, x0, x1, x2, x3, x16 => if x16 = true then (some 1) else (if (x0.length : Int) = 0 then (heads_fit.j1 k x0 x1 x2 x3 true) else (heads_fit.j1 k x0 x1 x2 x3 ((x1.length : Int) == 0)))
def heads_fit.j1 : Nat → List Int → List (List Int) → List (List Int) → Int → Bool → Option (Int)
  | 0, _, _, _, _, _ => none
  | k + 1, x0, x1, x2, x3, x24 => if x24 = true then (some 8) else (if (x0.length : Int) > 32 then (heads_fit.j2 k x0 x1 x2 x3 true) else (heads_fit.j2 k x0 x1 x2 x3 (decide ((x1.length : Int) > 128))))
def heads_fit.j2 : Nat → List Int → List (List Int) → List (List Int) → Int → Bool → Option (Int)
  | 0, _, _, _, _, _ => none
  | k + 1, x0, x1, x2, x3, x32 => if x32 = true then (some 2) else (if x3 = 0 then (none) else (if ((x0.length : Int) % x3) = 0 then (heads_fit.j3 k x0 x1 x2 ((x1.length : Int) != (x2.length : Int))) else (heads_fit.j3 k x0 x1 x2 true)))
def heads_fit.j3 : Nat → List Int → List (List Int) → List (List Int) → Bool → Option (Int)
  | 0, _, _, _, _ => none
  | k + 1, x0, x1, x2, x44 => if x44 = true then (some 6) else (heads_fit.l0 k x0 x2 x1 (x1.length : Int) 0)
def heads_fit.l0 : Nat → List Int → List (List Int) → List (List Int) → Int → Int → Option (Int)
  | 0, _, _, _, _, _ => none
  | k + 1, x0, x2, x45, x46, x47 => if x47 < x46 then (if 0 ≤ x47 then (if x47 < (x45.length : Int) then (if ((rd_L1 x45 x47).length : Int) = (x0.length : Int) then (if x47 < (x2.length : Int) then (if ((rd_L1 x2 x47).length : Int) = (x0.length : Int) then (heads_fit.l0 k x0 x2 x45 x46 (wrap64 (x47 + 1))) else (some 6)) else (none)) else (some 6)) else (none)) else (none)) else (some 0)
end
def heads_fit.f (k : Nat) (l0 : List Int) (l1 : List (List Int)) (l2 : List (List Int)) (a3 : Int) : Option (Int) := if a3 < 1 then (heads_fit.j0 k l0 l1 l2 a3 true) else (heads_fit.j0 k l0 l1 l2 a3 (decide (a3 > 4)))
theorem heads_fit.mono_l : ∀ k, (∀ y0 y1 y2 y3 y4, LeO (heads_fit.j0 k y0 y1 y2 y3 y4) (heads_fit.j0 (k + 1) y0 y1 y2 y3 y4)) ∧ (∀ y0 y1 y2 y3 y4, LeO (heads_fit.j1 k y0 y1 y2 y3 y4) (heads_fit.j1 (k + 1) y0 y1 y2 y3 y4)) ∧ (∀ y0 y1 y2 y3 y4, LeO (heads_fit.j2 k y0 y1 y2 y3 y4) (heads_fit.j2 (k + 1) y0 y1 y2 y3 y4)) ∧ (∀ y0 y1 y2 y3, LeO (heads_fit.j3 k y0 y1 y2 y3) (heads_fit.j3 (k + 1) y0 y1 y2 y3)) ∧ (∀ y0 y1 y2 y3 y4, LeO (heads_fit.l0 k y0 y1 y2 y3 y4) (heads_fit.l0 (k + 1) y0 y1 y2 y3 y4))
  | 0 => ⟨fun _ _ _ _ _ r h => by simp [heads_fit.j0] at h, fun _ _ _ _ _ r h => by simp [heads_fit.j1] at h, fun _ _ _ _ _ r h => by simp [heads_fit.j2] at h, fun _ _ _ _ r h => by simp [heads_fit.j3] at h, fun _ _ _ _ _ r h => by simp [heads_fit.l0] at h⟩
  | k + 1 => by
    obtain ⟨ih0, ih1, ih2, ih3, ih4⟩ := heads_fit.mono_l k
    refine ⟨?_, ?_, ?_, ?_, ?_⟩
    · intro y0 y1 y2 y3 y4
      unfold heads_fit.j0
      repeat' first
      | (with_reducible exact ih0 _ _ _ _ _)
      | (with_reducible exact ih1 _ _ _ _ _)
      | (with_reducible exact ih2 _ _ _ _ _)
      | (with_reducible exact ih3 _ _ _ _)
      | (with_reducible exact ih4 _ _ _ _ _)
      | (with_reducible exact LeO.refl _)
      | (with_reducible exact LeO.none _)
      | (with_reducible refine LeO.ite ?_ ?_)
      | (with_reducible refine LeO.bind ?_ (fun _ => ?_))
      | exact ih0 _ _ _ _ _
      | exact ih1 _ _ _ _ _
      | exact ih2 _ _ _ _ _
      | exact ih3 _ _ _ _
      | exact ih4 _ _ _ _ _
      | exact LeO.none _
      | refine LeO.ite ?_ ?_
      | refine LeO.bind ?_ (fun _ => ?_)
    · intro y0 y1 y2 y3 y4
      unfold heads_fit.j1
      repeat' first
      | (with_reducible exact ih0 _ _ _ _ _)
      | (with_reducible exact ih1 _ _ _ _ _)
      | (with_reducible exact ih2 _ _ _ _ _)
      | (with_reducible exact ih3 _ _ _ _)
      | (with_reducible exact ih4 _ _ _ _ _)
      | (with_reducible exact LeO.refl _)
      | (with_reducible exact LeO.none _)
      | (with_reducible refine LeO.ite ?_ ?_)
      | (with_reducible refine LeO.bind ?_ (fun _ => ?_))
      | exact ih0 _ _ _ _ _
      | exact ih1 _ _ _ _ _
      | exact ih2 _ _ _ _ _
      | exact ih3 _ _ _ _
      | exact ih4 _ _ _ _ _
      | exact LeO.none _
      | refine LeO.ite ?_ ?_
      | refine LeO.bind ?_ (fun _ => ?_)
    · intro y0 y1 y2 y3 y4
      unfold heads_fit.j2
      repeat' first
      | (with_reducible exact ih0 _ _ _ _ _)
      | (with_reducible exact ih1 _ _ _ _ _)
      | (with_reducible exact ih2 _ _ _ _ _)
      | (with_reducible exact ih3 _ _ _ _)
      | (with_reducible exact ih4 _ _ _ _ _)
      | (with_reducible exact LeO.refl _)
      | (with_reducible exact LeO.none _)
      | (with_reducible refine LeO.ite ?_ ?_)
      | (with_reducible refine LeO.bind ?_ (fun _ => ?_))
      | exact ih0 _ _ _ _ _
      | exact ih1 _ _ _ _ _
      | exact ih2 _ _ _ _ _
      | exact ih3 _ _ _ _
      | exact ih4 _ _ _ _ _
      | exact LeO.none _
      | refine LeO.ite ?_ ?_
      | refine LeO.bind ?_ (fun _ => ?_)
    · intro y0 y1 y2 y3
      unfold heads_fit.j3
      repeat' first
      | (with_reducible exact ih0 _ _ _ _ _)
      | (with_reducible exact ih1 _ _ _ _ _)
      | (with_reducible exact ih2 _ _ _ _ _)
      | (with_reducible exact ih3 _ _ _ _)
      | (with_reducible exact ih4 _ _ _ _ _)
      | (with_reducible exact LeO.refl _)
      | (with_reducible exact LeO.none _)
      | (with_reducible refine LeO.ite ?_ ?_)
      | (with_reducible refine LeO.bind ?_ (fun _ => ?_))
      | exact ih0 _ _ _ _ _
      | exact ih1 _ _ _ _ _
      | exact ih2 _ _ _ _ _
      | exact ih3 _ _ _ _
      | exact ih4 _ _ _ _ _
      | exact LeO.none _
      | refine LeO.ite ?_ ?_
      | refine LeO.bind ?_ (fun _ => ?_)
    · intro y0 y1 y2 y3 y4
      unfold heads_fit.l0
      repeat' first
      | (with_reducible exact ih0 _ _ _ _ _)
      | (with_reducible exact ih1 _ _ _ _ _)
      | (with_reducible exact ih2 _ _ _ _ _)
      | (with_reducible exact ih3 _ _ _ _)
      | (with_reducible exact ih4 _ _ _ _ _)
      | (with_reducible exact LeO.refl _)
      | (with_reducible exact LeO.none _)
      | (with_reducible refine LeO.ite ?_ ?_)
      | (with_reducible refine LeO.bind ?_ (fun _ => ?_))
      | exact ih0 _ _ _ _ _
      | exact ih1 _ _ _ _ _
      | exact ih2 _ _ _ _ _
      | exact ih3 _ _ _ _
      | exact ih4 _ _ _ _ _
      | exact LeO.none _
      | refine LeO.ite ?_ ?_
      | refine LeO.bind ?_ (fun _ => ?_)
theorem heads_fit.mono : ∀ a0 a1 a2 a3 k, LeO (heads_fit.f k a0 a1 a2 a3) (heads_fit.f (k + 1) a0 a1 a2 a3) := by
  intro a0 a1 a2 a3 k
  obtain ⟨ih0, ih1, ih2, ih3, ih4⟩ := heads_fit.mono_l k
  unfold heads_fit.f
  repeat' first
      | (with_reducible exact ih0 _ _ _ _ _)
      | (with_reducible exact ih1 _ _ _ _ _)
      | (with_reducible exact ih2 _ _ _ _ _)
      | (with_reducible exact ih3 _ _ _ _)
      | (with_reducible exact ih4 _ _ _ _ _)
      | (with_reducible exact LeO.refl _)
      | (with_reducible exact LeO.none _)
      | (with_reducible refine LeO.ite ?_ ?_)
      | (with_reducible refine LeO.bind ?_ (fun _ => ?_))
      | exact ih0 _ _ _ _ _
      | exact ih1 _ _ _ _ _
      | exact ih2 _ _ _ _ _
      | exact ih3 _ _ _ _
      | exact ih4 _ _ _ _ _
      | exact LeO.none _
      | refine LeO.ite ?_ ?_
      | refine LeO.bind ?_ (fun _ => ?_)
set_option maxHeartbeats 8000000 in
set_option maxRecDepth 100000 in
theorem heads_fit.calls (k : Nat) (A0 : Option Addr) (c0 : Nat) (l0 : List Int) (A1 : Option Addr) (c1 : Nat) (l1 : List (List Int)) (A2 : Option Addr) (c2 : Nat) (l2 : List (List Int)) (a3 : Int) (r : Int) (w : World) (hr0 : Kd.C (Kd.int .i32) w A0 l0.length l0) (hc0 : l0.length ≤ c0) (hr1 : Kd.C (Kd.slice 72 (Kd.int .i32)) w A1 l1.length l1) (hc1 : l1.length ≤ c1) (hr2 : Kd.C (Kd.slice 72 (Kd.int .i32)) w A2 l2.length l2) (hc2 : l2.length ≤ c2) (h : heads_fit.f k l0 l1 l2 a3 = some r) :
    Calls Try.prog 51 #[.slice A0 l0.length c0, .slice A1 l1.length c1, .slice A2 l2.length c2, .int .i64 a3] w fun e w' => e = .returned (.int .i64 r) ∧ Drawn0 w w' := by
  have HR0 := Aside0.mk hr0
  have HC0 := Aside0.mk hc0
  clear hr0 hc0
  have HR1 := Aside0.mk hr1
  have HC1 := Aside0.mk hc1
  clear hr1 hc1
  have HR2 := Aside0.mk hr2
  have HC2 := Aside0.mk hc2
  clear hr2 hc2
  have H : (if a3 < 1 then (heads_fit.j0 k l0 l1 l2 a3 true) else (heads_fit.j0 k l0 l1 l2 a3 (decide (a3 > 4)))) = some r := h
  clear h
  have HC5 := Aside0.mk H
  clear H
  go_enter Try.func51, Try.ntmps51
  go_upto_region 1 with (fail)
  go_cut [16] (fun v16 wc => ∃ (kq : Nat) (x16_4 : Bool), v16 = .bool x16_4 ∧ Aside0 (heads_fit.j0 kq l0 l1 l2 a3 x16_4 = some r) ∧ Aside0 (kq ≤ k) ∧ Drawn0 w wc)
  case first =>
    have H := HC5.out
    clear HC5
    by_cases c6 : a3 < 1
    · rw [if_pos c6] at H
      have c6b0 : decide (a3 < 1) = true := decide_eq_true c6
      clear c6
      (first | rw [c6b0] | (simp only [i64_w, i32_w]; rw [c6b0]) | skip)
      have H' := Aside0.mk H
      clear H
      go_wp2
      go_meet
      case rel => exact ⟨_, (true), (by first | rfl | (simp; done) | (simp [*]; done)), H', ⟨by first | omega | exact Nat.le_refl _⟩, by repeat (first | exact Drawn0.refl _ | apply Drawn0.step)⟩
    · rw [if_neg c6] at H
      have c6b0 : decide (a3 < 1) = false := decide_eq_false c6
      clear c6
      (first | rw [c6b0] | (simp only [i64_w, i32_w]; rw [c6b0]) | skip)
      have H' := Aside0.mk H
      clear H
      go_wp2
      go_meet
      case rel => exact ⟨_, (decide (a3 > 4)), (by first | rfl | (simp; done) | (simp [*]; done)), H', ⟨by first | omega | exact Nat.le_refl _⟩, by repeat (first | exact Drawn0.refl _ | apply Drawn0.step)⟩
  case rest =>
    clear HC5
    try clear c1
    try clear c2
    try clear p2
    try clear c5
    try clear c6
    try clear c6b0
    obtain ⟨kq, x16_4, rfl, HA, HJ4, ⟨mc4, rfl⟩⟩ := hcut
    cases kq with
    | zero => exact absurd HA.out (by simp [heads_fit.j0])
    | succ kj4 =>
      have H := HA.out
      clear HA
      simp only [heads_fit.j0] at H
      by_cases c7 : x16_4 = true
      · subst c7
        have H1 : (some 1) = some r := by rw [if_pos rfl] at H; exact H
        clear H
        have H := H1
        clear H1
        obtain rfl := Option.some.inj H
        go_wp2
        go_ret
        exact ⟨by first | rfl | (simp; done) | (simp [*]; done), by repeat (first | exact Drawn0.refl _ | apply Drawn0.step)⟩
      · replace c7 := Bool.eq_false_iff.mpr c7
        subst c7
        have H1 : (if (l0.length : Int) = 0 then (heads_fit.j1 kj4 l0 l1 l2 a3 true) else (heads_fit.j1 kj4 l0 l1 l2 a3 ((l1.length : Int) == 0))) = some r := by rw [if_neg (show ¬ (false = true) by decide)] at H; exact H
        clear H
        have H := H1
        clear H1
        have HC8 := Aside0.mk H
        clear H
        go_upto_region 3 with (fail)
        go_cut [24] (fun v24 wc => ∃ (kq : Nat) (x24_7 : Bool), v24 = .bool x24_7 ∧ Aside0 (heads_fit.j1 kq l0 l1 l2 a3 x24_7 = some r) ∧ Aside0 (kq ≤ kj4) ∧ Drawn0 w wc)
        case first =>
          have H := HC8.out
          clear HC8
          by_cases c9 : (l0.length : Int) = 0
          · rw [if_pos c9] at H
            have c9b0 : ((l0.length : Int) == 0) = true := beq_iff_eq.mpr c9
            have c9b1 : ((l0.length : Int) != 0) = false := bne_eq_false_iff_eq.mpr c9
            clear c9
            (first | rw [c9b0] | (simp only [i64_w, i32_w]; rw [c9b0]) | skip)
            have H' := Aside0.mk H
            clear H
            go_wp2
            go_meet
            case rel => exact ⟨_, (true), (by first | rfl | (simp; done) | (simp [*]; done)), H', ⟨by have := HJ4.out; first | omega | exact Nat.le_refl _⟩, by repeat (first | exact Drawn0.refl _ | apply Drawn0.step)⟩
          · rw [if_neg c9] at H
            have c9b0 : ((l0.length : Int) == 0) = false := beq_eq_false_iff_ne.mpr c9
            have c9b1 : ((l0.length : Int) != 0) = true := bne_iff_ne.mpr c9
            have c9b2 : ¬ (l0 = []) := fun h_ => c9 (by rw [h_]; rfl)
            (first | rw [c9b0] | (simp only [i64_w, i32_w]; rw [c9b0]) | skip)
            have H' := Aside0.mk H
            clear H
            go_wp2
            go_meet
            case rel => exact ⟨_, (((l1.length : Int) == 0)), (by first | rfl | (simp; done) | (simp [*]; done)), H', ⟨by have := HJ4.out; first | omega | exact Nat.le_refl _⟩, by repeat (first | exact Drawn0.refl _ | apply Drawn0.step)⟩
        case rest =>
          clear HC8
          try clear c1
          try clear c2
          try clear p2
          try clear c4
          try clear c5
          try clear c6
          try clear c6b0
          try clear c7
          try clear c9
          try clear c9b0
          try clear c9b1
          try clear c9b2
          try clear p2
          obtain ⟨kq, x24_7, rfl, HA, HJ7, ⟨mc7, rfl⟩⟩ := hcut
          cases kq with
          | zero => exact absurd HA.out (by simp [heads_fit.j1])
          | succ kj7 =>
            have H := HA.out
            clear HA
            simp only [heads_fit.j1] at H
            by_cases c10 : x24_7 = true
            · subst c10
              have H1 : (some 8) = some r := by rw [if_pos rfl] at H; exact H
              clear H
              have H := H1
              clear H1
              obtain rfl := Option.some.inj H
              go_wp2
              go_ret
              exact ⟨by first | rfl | (simp; done) | (simp [*]; done), by repeat (first | exact Drawn0.refl _ | apply Drawn0.step)⟩
            · replace c10 := Bool.eq_false_iff.mpr c10
              subst c10
              have H1 : (if (l0.length : Int) > 32 then (heads_fit.j2 kj7 l0 l1 l2 a3 true) else (heads_fit.j2 kj7 l0 l1 l2 a3 (decide ((l1.length : Int) > 128)))) = some r := by rw [if_neg (show ¬ (false = true) by decide)] at H; exact H
              clear H
              have H := H1
              clear H1
              have HC11 := Aside0.mk H
              clear H
              go_upto_region 5 with (fail)
              go_cut [32] (fun v32 wc => ∃ (kq : Nat) (x32_10 : Bool), v32 = .bool x32_10 ∧ Aside0 (heads_fit.j2 kq l0 l1 l2 a3 x32_10 = some r) ∧ Aside0 (kq ≤ kj7) ∧ Drawn0 w wc)
              case first =>
                have H := HC11.out
                clear HC11
                by_cases c12 : (l0.length : Int) > 32
                · rw [if_pos c12] at H
                  have c12b0 : decide (32 < (l0.length : Int)) = true := decide_eq_true c12
                  have c12b1 : decide (32 < l0.length) = true := decide_eq_true (by omega)
                  clear c12
                  (first | rw [c12b0] | (simp only [i64_w, i32_w]; rw [c12b0]) | skip)
                  have H' := Aside0.mk H
                  clear H
                  go_wp2
                  go_meet
                  case rel => exact ⟨_, (true), (by first | rfl | (simp; done) | (simp [*]; done)), H', ⟨by have := HJ4.out; have := HJ7.out; first | omega | exact Nat.le_refl _⟩, by repeat (first | exact Drawn0.refl _ | apply Drawn0.step)⟩
                · rw [if_neg c12] at H
                  have c12b0 : decide (32 < (l0.length : Int)) = false := decide_eq_false c12
                  have c12b1 : decide (32 < l0.length) = false := decide_eq_false (by omega)
                  clear c12
                  (first | rw [c12b0] | (simp only [i64_w, i32_w]; rw [c12b0]) | skip)
                  have H' := Aside0.mk H
                  clear H
                  go_wp2
                  go_meet
                  case rel => exact ⟨_, (decide ((l1.length : Int) > 128)), (by first | rfl | (simp; done) | (simp [*]; done)), H', ⟨by have := HJ4.out; have := HJ7.out; first | omega | exact Nat.le_refl _⟩, by repeat (first | exact Drawn0.refl _ | apply Drawn0.step)⟩
              case rest =>
                clear HC11
                try clear c1
                try clear c2
                try clear p2
                try clear c4
                try clear c5
                try clear c6
                try clear c6b0
                try clear c7
                try clear c9
                try clear c9b0
                try clear c9b1
                try clear c9b2
                try clear c10
                try clear c12
                try clear c12b0
                try clear c12b1
                try clear p2
                obtain ⟨kq, x32_10, rfl, HA, HJ10, ⟨mc10, rfl⟩⟩ := hcut
                cases kq with
                | zero => exact absurd HA.out (by simp [heads_fit.j2])
                | succ kj10 =>
                  have H := HA.out
                  clear HA
                  simp only [heads_fit.j2] at H
                  by_cases c13 : x32_10 = true
                  · subst c13
                    have H1 : (some 2) = some r := by rw [if_pos rfl] at H; exact H
                    clear H
                    have H := H1
                    clear H1
                    obtain rfl := Option.some.inj H
                    go_wp2
                    go_ret
                    exact ⟨by first | rfl | (simp; done) | (simp [*]; done), by repeat (first | exact Drawn0.refl _ | apply Drawn0.step)⟩
                  · replace c13 := Bool.eq_false_iff.mpr c13
                    subst c13
                    have H1 : (if a3 = 0 then (none) else (if ((l0.length : Int) % a3) = 0 then (heads_fit.j3 kj10 l0 l1 l2 ((l1.length : Int) != (l2.length : Int))) else (heads_fit.j3 kj10 l0 l1 l2 true))) = some r := by rw [if_neg (show ¬ (false = true) by decide)] at H; exact H
                    clear H
                    have H := H1
                    clear H1
                    have HC14 := Aside0.mk H
                    clear H
                    go_upto_region 7 with (fail)
                    go_cut [44] (fun v44 wc => ∃ (kq : Nat) (x44_13 : Bool), v44 = .bool x44_13 ∧ Aside0 (heads_fit.j3 kq l0 l1 l2 x44_13 = some r) ∧ Aside0 (kq ≤ kj10) ∧ Drawn0 w wc)
                    case first =>
                      have H := HC14.out
                      clear HC14
                      by_cases c15 : a3 = 0
                      · rw [if_pos c15] at H
                        exact absurd H (by simp)
                      · rw [if_neg c15] at H
                        have c15b0 : (a3 == 0) = false := beq_eq_false_iff_ne.mpr c15
                        have c15b1 : (a3 != 0) = true := bne_iff_ne.mpr c15
                        (first | rw [c15b0] | (simp only [i64_w, i32_w]; rw [c15b0]) | skip)
                        by_cases c16 : ((l0.length : Int) % a3) = 0
                        · rw [if_pos c16] at H
                          have c16b0 : (((l0.length : Int) % a3) == 0) = true := beq_iff_eq.mpr c16
                          have c16b1 : (((l0.length : Int) % a3) != 0) = false := bne_eq_false_iff_eq.mpr c16
                          clear c16
                          have H' := Aside0.mk H
                          clear H
                          go_wp2
                          go_meet
                          case rel => exact ⟨_, (((l1.length : Int) != (l2.length : Int))), (by first | rfl | (simp; done) | (simp [*]; done)), H', ⟨by have := HJ4.out; have := HJ7.out; have := HJ10.out; first | omega | exact Nat.le_refl _⟩, by repeat (first | exact Drawn0.refl _ | apply Drawn0.step)⟩
                        · rw [if_neg c16] at H
                          have c16b0 : (((l0.length : Int) % a3) == 0) = false := beq_eq_false_iff_ne.mpr c16
                          have c16b1 : (((l0.length : Int) % a3) != 0) = true := bne_iff_ne.mpr c16
                          have H' := Aside0.mk H
                          clear H
                          go_wp2
                          go_meet
                          case rel => exact ⟨_, (true), (by first | rfl | (simp; done) | (simp [*]; done)), H', ⟨by have := HJ4.out; have := HJ7.out; have := HJ10.out; first | omega | exact Nat.le_refl _⟩, by repeat (first | exact Drawn0.refl _ | apply Drawn0.step)⟩
                    case rest =>
                      clear HC14
                      try clear c1
                      try clear c2
                      try clear p2
                      try clear c4
                      try clear c5
                      try clear c6
                      try clear c6b0
                      try clear c7
                      try clear c9
                      try clear c9b0
                      try clear c9b1
                      try clear c9b2
                      try clear c10
                      try clear c12
                      try clear c12b0
                      try clear c12b1
                      try clear c13
                      try clear c15
                      try clear c15b0
                      try clear c15b1
                      try clear c16
                      try clear c16b0
                      try clear c16b1
                      try clear p2
                      obtain ⟨kq, x44_13, rfl, HA, HJ13, ⟨mc13, rfl⟩⟩ := hcut
                      cases kq with
                      | zero => exact absurd HA.out (by simp [heads_fit.j3])
                      | succ kj13 =>
                        have H := HA.out
                        clear HA
                        simp only [heads_fit.j3] at H
                        by_cases c17 : x44_13 = true
                        · subst c17
                          have H1 : (some 6) = some r := by rw [if_pos rfl] at H; exact H
                          clear H
                          have H := H1
                          clear H1
                          obtain rfl := Option.some.inj H
                          go_wp2
                          go_ret
                          exact ⟨by first | rfl | (simp; done) | (simp [*]; done), by repeat (first | exact Drawn0.refl _ | apply Drawn0.step)⟩
                        · replace c17 := Bool.eq_false_iff.mpr c17
                          subst c17
                          have H1 : (heads_fit.l0 kj13 l0 l2 l1 (l1.length : Int) 0) = some r := by rw [if_neg (show ¬ (false = true) by decide)] at H; exact H
                          clear H
                          have H := H1
                          clear H1
                          have H' := Aside0.mk H
                          clear H
                          go_wp2
                          go_loopg [47] kj13 (fun kq v47 w' => ∃ (x47_5 : Int), v47 = .int .i64 x47_5 ∧ Aside0 (heads_fit.l0 kq l0 l2 l1 (l1.length : Int) x47_5 = some r) ∧ Aside0 (kq ≤ kj13) ∧ Drawn0 w w')
                          case atStart => exact ⟨(0), (by first | rfl | (simp; done) | (simp [*]; done)), H', ⟨Nat.le_refl _⟩, by repeat (first | exact Drawn0.refl _ | apply Drawn0.step)⟩
                          case round =>
                            clear H'
                            try clear c1
                            try clear c2
                            try clear p2
                            try clear c4
                            try clear c5
                            try clear c6
                            try clear c6b0
                            try clear c7
                            try clear c9
                            try clear c9b0
                            try clear c9b1
                            try clear c9b2
                            try clear c10
                            try clear c12
                            try clear c12b0
                            try clear c12b1
                            try clear c13
                            try clear c15
                            try clear c15b0
                            try clear c15b1
                            try clear c16
                            try clear c16b0
                            try clear c16b1
                            try clear c17
                            try clear p2
                            obtain ⟨x47_5, rfl, HA, HK5, ⟨m5, rfl⟩⟩ := hrel
                            cases gk with
                            | zero => exact absurd HA.out (by simp [heads_fit.l0])
                            | succ k5 =>
                              have H := HA.out
                              clear HA
                              simp only [heads_fit.l0] at H
                              by_cases c18 : x47_5 < (l1.length : Int)
                              · rw [if_pos c18] at H
                                have c18b0 : decide (x47_5 < (l1.length : Int)) = true := decide_eq_true c18
                                clear c18
                                by_cases c19 : 0 ≤ x47_5
                                · rw [if_pos c19] at H
                                  have c19b0 : decide (0 ≤ x47_5) = true := decide_eq_true c19
                                  clear c19
                                  by_cases c20 : x47_5 < (l1.length : Int)
                                  · rw [if_pos c20] at H
                                    have c20b0 : decide (x47_5 < (l1.length : Int)) = true := decide_eq_true c20
                                    clear c20
                                    by_cases c21 : ((rd_L1 l1 x47_5).length : Int) = (l0.length : Int)
                                    · rw [if_pos c21] at H
                                      have c21b0 : (((rd_L1 l1 x47_5).length : Int) == (l0.length : Int)) = true := beq_iff_eq.mpr c21
                                      have c21b1 : (((rd_L1 l1 x47_5).length : Int) != (l0.length : Int)) = false := bne_eq_false_iff_eq.mpr c21
                                      have c21b2 : ((rd_L1 l1 x47_5).length == l0.length) = true := by first | simpa using c21 | (simp at c21 ⊢; omega)
                                      clear c21
                                      by_cases c22 : x47_5 < (l2.length : Int)
                                      · rw [if_pos c22] at H
                                        have c22b0 : decide (x47_5 < (l2.length : Int)) = true := decide_eq_true c22
                                        clear c22
                                        by_cases c23 : ((rd_L1 l2 x47_5).length : Int) = (l0.length : Int)
                                        · rw [if_pos c23] at H
                                          have c23b0 : (((rd_L1 l2 x47_5).length : Int) == (l0.length : Int)) = true := beq_iff_eq.mpr c23
                                          have c23b1 : (((rd_L1 l2 x47_5).length : Int) != (l0.length : Int)) = false := bne_eq_false_iff_eq.mpr c23
                                          have c23b2 : ((rd_L1 l2 x47_5).length == l0.length) = true := by first | simpa using c23 | (simp at c23 ⊢; omega)
                                          clear c23
                                          have H' := Aside0.mk H
                                          clear H
                                          have p144 : 0 ≤ (x47_5 : Int) := of_decide_eq_true (by first | (with_reducible assumption) | assumption)
                                          have q144 : x47_5 < (l1.length : Int) := of_decide_eq_true (by first | (with_reducible assumption) | assumption)
                                          obtain ⟨ad144, A144_0, c144_0, e144, hx144_0, hl144_0, hi144_0⟩ := at_L1 HR1.out x47_5 p144 q144
                                          cases e144
                                          have HR144_0 := Aside0.mk hi144_0
                                          have HC144_0 := Aside0.mk hl144_0
                                          clear hi144_0 hl144_0
                                          replace p144 := eq_true p144
                                          replace q144 := eq_true q144
                                          have p145 : 0 ≤ (x47_5 : Int) := of_decide_eq_true (by first | (with_reducible assumption) | assumption)
                                          have q145 : x47_5 < (l2.length : Int) := of_decide_eq_true (by first | (with_reducible assumption) | assumption)
                                          obtain ⟨ad145, A145_0, c145_0, e145, hx145_0, hl145_0, hi145_0⟩ := at_L1 HR2.out x47_5 p145 q145
                                          cases e145
                                          have HR145_0 := Aside0.mk hi145_0
                                          have HC145_0 := Aside0.mk hl145_0
                                          clear hi145_0 hl145_0
                                          replace p145 := eq_true p145
                                          replace q145 := eq_true q145
                                          go_wp2
                                          go_roundg k5
                                          case measure => have := HJ4.out; have := HJ7.out; have := HJ10.out; have := HJ13.out; have := HK5.out; omega
                                          case rel => exact ⟨(wrap64 (x47_5 + 1)), (by first | rfl | (simp; done) | (simp [*]; done)), H', ⟨by have := HJ4.out; have := HJ7.out; have := HJ10.out; have := HJ13.out; have := HK5.out; omega⟩, by repeat (first | exact Drawn0.refl _ | apply Drawn0.step)⟩
                                        · rw [if_neg c23] at H
                                          have c23b0 : (((rd_L1 l2 x47_5).length : Int) == (l0.length : Int)) = false := beq_eq_false_iff_ne.mpr c23
                                          have c23b1 : (((rd_L1 l2 x47_5).length : Int) != (l0.length : Int)) = true := bne_iff_ne.mpr c23
                                          have c23b2 : ((rd_L1 l2 x47_5).length == l0.length) = false := by first | simpa using c23 | (simp at c23 ⊢; omega)
                                          obtain rfl := Option.some.inj H
                                          have p144 : 0 ≤ (x47_5 : Int) := of_decide_eq_true (by first | (with_reducible assumption) | assumption)
                                          have q144 : x47_5 < (l1.length : Int) := of_decide_eq_true (by first | (with_reducible assumption) | assumption)
                                          obtain ⟨ad144, A144_0, c144_0, e144, hx144_0, hl144_0, hi144_0⟩ := at_L1 HR1.out x47_5 p144 q144
                                          cases e144
                                          have HR144_0 := Aside0.mk hi144_0
                                          have HC144_0 := Aside0.mk hl144_0
                                          clear hi144_0 hl144_0
                                          replace p144 := eq_true p144
                                          replace q144 := eq_true q144
                                          have p145 : 0 ≤ (x47_5 : Int) := of_decide_eq_true (by first | (with_reducible assumption) | assumption)
                                          have q145 : x47_5 < (l2.length : Int) := of_decide_eq_true (by first | (with_reducible assumption) | assumption)
                                          obtain ⟨ad145, A145_0, c145_0, e145, hx145_0, hl145_0, hi145_0⟩ := at_L1 HR2.out x47_5 p145 q145
                                          cases e145
                                          have HR145_0 := Aside0.mk hi145_0
                                          have HC145_0 := Aside0.mk hl145_0
                                          clear hi145_0 hl145_0
                                          replace p145 := eq_true p145
                                          replace q145 := eq_true q145
                                          go_wp2
                                          go_ret
                                          exact ⟨by first | rfl | (simp; done) | (simp [*]; done), by repeat (first | exact Drawn0.refl _ | apply Drawn0.step)⟩
                                      · rw [if_neg c22] at H
                                        exact absurd H (by simp)
                                    · rw [if_neg c21] at H
                                      have c21b0 : (((rd_L1 l1 x47_5).length : Int) == (l0.length : Int)) = false := beq_eq_false_iff_ne.mpr c21
                                      have c21b1 : (((rd_L1 l1 x47_5).length : Int) != (l0.length : Int)) = true := bne_iff_ne.mpr c21
                                      have c21b2 : ((rd_L1 l1 x47_5).length == l0.length) = false := by first | simpa using c21 | (simp at c21 ⊢; omega)
                                      obtain rfl := Option.some.inj H
                                      have p144 : 0 ≤ (x47_5 : Int) := of_decide_eq_true (by first | (with_reducible assumption) | assumption)
                                      have q144 : x47_5 < (l1.length : Int) := of_decide_eq_true (by first | (with_reducible assumption) | assumption)
                                      obtain ⟨ad144, A144_0, c144_0, e144, hx144_0, hl144_0, hi144_0⟩ := at_L1 HR1.out x47_5 p144 q144
                                      cases e144
                                      have HR144_0 := Aside0.mk hi144_0
                                      have HC144_0 := Aside0.mk hl144_0
                                      clear hi144_0 hl144_0
                                      replace p144 := eq_true p144
                                      replace q144 := eq_true q144
                                      go_wp2
                                      go_ret
                                      exact ⟨by first | rfl | (simp; done) | (simp [*]; done), by repeat (first | exact Drawn0.refl _ | apply Drawn0.step)⟩
                                  · rw [if_neg c20] at H
                                    exact absurd H (by simp)
                                · rw [if_neg c19] at H
                                  exact absurd H (by simp)
                              · rw [if_neg c18] at H
                                have c18b0 : decide (x47_5 < (l1.length : Int)) = false := decide_eq_false c18
                                clear c18
                                obtain rfl := Option.some.inj H
                                go_wp2
                                go_ret
                                exact ⟨by first | rfl | (simp; done) | (simp [*]; done), by repeat (first | exact Drawn0.refl _ | apply Drawn0.step)⟩

/-! ### heads_parts: function 52 -/
def heads_parts.l0 : Nat → Int → Int → List (List Int) → List (List Int) → Int → Int → Option ((List (List Int)))
  | 0, _, _, _, _, _, _ => none
  | k + 1, x1, x2, x7, x10, x11, x12 => if x12 < x11 then (if 0 ≤ x12 then (if x12 < (x10.length : Int) then (if 0 ≤ x1 then (if x1 ≤ x2 then (if x2 ≤ ((rd_L1 x10 x12).length : Int) then (if x7.length < 5864062014805 then (heads_parts.l0 k x1 x2 (x7 ++ [(((rd_L1 x10 x12).take (x2 : Int).toNat).drop (x1 : Int).toNat)]) x10 x11 (wrap64 (x12 + 1))) else (none)) else (none)) else (none)) else (none)) else (none)) else (none)) else (some x7)
def heads_parts.f (k : Nat) (l0 : List (List Int)) (a1 : Int) (a2 : Int) : Option ((List (List Int))) := heads_parts.l0 k a1 a2 ([] : List (List Int)) l0 (l0.length : Int) 0
theorem heads_parts.mono_l : ∀ k, (∀ y0 y1 y2 y3 y4 y5, LeO (heads_parts.l0 k y0 y1 y2 y3 y4 y5) (heads_parts.l0 (k + 1) y0 y1 y2 y3 y4 y5))
  | 0 => fun _ _ _ _ _ _ r h => by simp [heads_parts.l0] at h
  | k + 1 => by
    have ih0 := heads_parts.mono_l k
    · intro y0 y1 y2 y3 y4 y5
      unfold heads_parts.l0
      repeat' first
      | (with_reducible exact ih0 _ _ _ _ _ _)
      | (with_reducible exact LeO.refl _)
      | (with_reducible exact LeO.none _)
      | (with_reducible refine LeO.ite ?_ ?_)
      | (with_reducible refine LeO.bind ?_ (fun _ => ?_))
      | exact ih0 _ _ _ _ _ _
      | exact LeO.none _
      | refine LeO.ite ?_ ?_
      | refine LeO.bind ?_ (fun _ => ?_)
theorem heads_parts.mono : ∀ a0 a1 a2 k, LeO (heads_parts.f k a0 a1 a2) (heads_parts.f (k + 1) a0 a1 a2) := by
  intro a0 a1 a2 k
  have ih0 := heads_parts.mono_l k
  unfold heads_parts.f
  repeat' first
      | (with_reducible exact ih0 _ _ _ _ _ _)
      | (with_reducible exact LeO.refl _)
      | (with_reducible exact LeO.none _)
      | (with_reducible refine LeO.ite ?_ ?_)
      | (with_reducible refine LeO.bind ?_ (fun _ => ?_))
      | exact ih0 _ _ _ _ _ _
      | exact LeO.none _
      | refine LeO.ite ?_ ?_
      | refine LeO.bind ?_ (fun _ => ?_)
set_option maxHeartbeats 8000000 in
set_option maxRecDepth 100000 in
theorem heads_parts.calls (k : Nat) (P0_ : Nat → Prop) (A0 : Option Addr) (c0 : Nat) (l0 : List (List Int)) (a1 : Int) (a2 : Int) (r : List (List Int)) (w : World) (hs0 : Kd.V (Kd.slice 72 (Kd.int .i32)) 61 w w.heap.size (fun k_ => P0_ k_) (.slice A0 l0.length c0) l0) (h : heads_parts.f k l0 a1 a2 = some r) :
    Calls Try.prog 52 #[.slice A0 l0.length c0, .int .i64 a1, .int .i64 a2] w fun e w' => ∃ v0_ : Value, e = .returned (v0_) ∧ Kd.N (Kd.slice 72 (Kd.int .i32)) 61 w' w.heap.size (fun k_ => (P0_ k_ ∨ w.heap.size ≤ k_)) v0_ r ∧ Below w.heap.size w w' := by
  have HO0 := Aside0.mk (show Kd.V (Kd.slice 72 (Kd.int .i32)) 61 w w.heap.size (fun k_ => (P0_ k_ ∨ w.heap.size ≤ k_)) (.slice A0 l0.length c0) l0 from Kd.V_mono hs0 (fun k_ hk => .inl hk))
  have HB := Aside0.mk (Below.refl w.heap.size w)
  have H : (heads_parts.l0 k a1 a2 ([] : List (List Int)) l0 (l0.length : Int) 0) = some r := h
  clear h
  have H' := Aside0.mk H
  clear H
  go_enter Try.func52, Try.ntmps52
  go_wp2
  go_loopg [7, 12] k (fun kq v7 v12 w' => ∃ (x7_1 : List (List Int)) (x12_1 : Int), v12 = .int .i64 x12_1 ∧ Aside0 (heads_parts.l0 kq a1 a2 x7_1 l0 (l0.length : Int) x12_1 = some r) ∧ Aside0 (kq ≤ k) ∧ Aside0 (Kd.N (Kd.slice 72 (Kd.int .i32)) 61 w' w.heap.size (fun k_ => (P0_ k_ ∨ w.heap.size ≤ k_)) v7 x7_1) ∧ Aside0 (Kd.V (Kd.slice 72 (Kd.int .i32)) 61 w' w.heap.size (fun k_ => (P0_ k_ ∨ w.heap.size ≤ k_) ∧ some k_ ≠ (v7 : Value).ownBlock) (.slice A0 l0.length c0) l0) ∧ Aside0 (Below w.heap.size w w'))
  case atStart => exact ⟨(([] : List (List Int))), (0), (by first | rfl | (simp; done) | (simp [*]; done)), H', ⟨Nat.le_refl _⟩, ⟨by first | exact Kd.S_nil _ _ _ _ _ | exact Kd.N_nil _ _ _ _ _ | exact Kd.V_nil _ _ _ _ _ | exact Kd.Q_nil _ _ _ _ _ | exact Kd.R_nil _ _ _ _ _⟩, ⟨by (with_reducible repeat (first | apply Kd.V_alloc | apply Kd.V_drewN | apply Kd.V_drew)); exact Kd.V_mono HO0.out (fun _ hk => ⟨hk, (by simp [Value.ownBlock])⟩)⟩, ⟨by repeat (first | (with_reducible first | exact HB.out | apply below_alloc | apply pw_below_drewN | apply below_drew1) | exact HB.out)⟩⟩
  case round =>
    clear H'
    try clear p2
    obtain ⟨x7_1, x12_1, rfl, HA, HK1, HO_7, HO_10, HB⟩ := hrel
    cases gk with
    | zero => exact absurd HA.out (by simp [heads_parts.l0])
    | succ k1 =>
      have H := HA.out
      clear HA
      simp only [heads_parts.l0] at H
      by_cases c4 : x12_1 < (l0.length : Int)
      · rw [if_pos c4] at H
        have c4b0 : decide (x12_1 < (l0.length : Int)) = true := decide_eq_true c4
        clear c4
        by_cases c5 : 0 ≤ x12_1
        · rw [if_pos c5] at H
          have c5b0 : decide (0 ≤ x12_1) = true := decide_eq_true c5
          clear c5
          by_cases c6 : x12_1 < (l0.length : Int)
          · rw [if_pos c6] at H
            have c6b0 : decide (x12_1 < (l0.length : Int)) = true := decide_eq_true c6
            clear c6
            by_cases c7 : 0 ≤ a1
            · rw [if_pos c7] at H
              have c7b0 := eq_true c7
              have c7b1 : decide (0 ≤ a1) = true := decide_eq_true c7
              clear c7
              by_cases c8 : a1 ≤ a2
              · rw [if_pos c8] at H
                have c8b0 := eq_true c8
                have c8b1 : decide (a1 ≤ a2) = true := decide_eq_true c8
                clear c8
                by_cases c9 : a2 ≤ ((rd_L1 l0 x12_1).length : Int)
                · rw [if_pos c9] at H
                  have c9b0 := eq_true c9
                  have c9b1 : decide (a2 ≤ ((rd_L1 l0 x12_1).length : Int)) = true := decide_eq_true c9
                  clear c9
                  obtain ⟨y147, hy147⟩ : ∃ y_ : List Int, y_ = (((rd_L1 l0 x12_1).take (a2 : Int).toNat).drop (a1 : Int).toNat) := ⟨_, rfl⟩
                  replace H : (if x7_1.length < 5864062014805 then (heads_parts.l0 k1 a1 a2 (x7_1 ++ [y147]) l0 (l0.length : Int) (wrap64 (x12_1 + 1))) else (none)) = some r := by first | (rw [hy147]; with_reducible exact H) | (have H2_ := (Option.bind_some _ _).symm.trans H; rw [hy147]; with_reducible exact H2_) | (have H2_ := (Option.bind_some _ _).symm.trans H; with_reducible exact H2_) | with_reducible exact H | (rw [hy147]; exact H) | exact H
                  have Ny147 := Aside0.mk hy147
                  clear hy147
                  by_cases c10 : x7_1.length < 5864062014805
                  · rw [if_pos c10] at H
                    have LMc10 := Aside0.mk c10
                    clear c10
                    obtain ⟨y152, hy152⟩ : ∃ y_ : List (List Int), y_ = (x7_1 ++ [y147]) := ⟨_, rfl⟩
                    replace H : (heads_parts.l0 k1 a1 a2 y152 l0 (l0.length : Int) (wrap64 (x12_1 + 1))) = some r := by first | (rw [hy152]; with_reducible exact H) | (have H2_ := (Option.bind_some _ _).symm.trans H; rw [hy152]; with_reducible exact H2_) | (have H2_ := (Option.bind_some _ _).symm.trans H; with_reducible exact H2_) | with_reducible exact H | (rw [hy152]; exact H) | exact H
                    have Ny152 := Aside0.mk hy152
                    clear hy152
                    have H' := Aside0.mk H
                    clear H
                    have p146 : 0 ≤ (x12_1 : Int) := of_decide_eq_true (by first | (with_reducible assumption) | assumption)
                    have q146 : x12_1 < (l0.length : Int) := of_decide_eq_true (by first | (with_reducible assumption) | assumption)
                    obtain ⟨ad146, A146_0, c146_0, e146, hx146_0, hl146_0, hi146_0⟩ := at_L1 (Kd.V_reads' HO_10.out).2.2 x12_1 p146 q146
                    cases e146
                    obtain ⟨ce146, hce146, hMe146, hcc146⟩ := Kd.V_get HO_10.out [] x12_1 p146 (by first | exact q146 | exact of_decide_eq_true (by first | (with_reducible assumption) | assumption) | (have e_ := (Kd.V_reads' HO_10.out).1; omega))
                    obtain ⟨ua146_0, uc146_0, rfl, ul146_0, ge146_0⟩ := Kd.FK_slice_open hMe146
                    have hv146_0 := hcc146 0 _ rfl
                    rw [Nat.add_zero, show ((Kd.slice 72 (Kd.int .i32))).sz = 1 from rfl, Nat.mul_one] at hv146_0
                    replace hv146_0 := Option.some.inj (hv146_0.symm.trans hx146_0)
                    injection hv146_0 with hva_ hvn_ hvc_
                    rw [hva_] at ge146_0
                    rw [hvc_] at ul146_0
                    have HL146_0 := Aside0.mk (show Kd.V (Kd.int .i32) 72 _ w.heap.size _ _ (rd_L1 l0 x12_1) from Kd.V_mk ul146_0 ge146_0)
                    clear hva_ hvn_ hvc_ ge146_0 ul146_0
                    clear hcc146 hce146
                    have HR146_0 := Aside0.mk hi146_0
                    have HC146_0 := Aside0.mk hl146_0
                    clear hi146_0 hl146_0
                    replace p146 := eq_true p146
                    replace q146 := eq_true q146
                    have q11 : (a2 : Int) ≤ (((rd_L1 l0 x12_1).length : Int) : Int) := of_decide_eq_true (by first | (with_reducible assumption) | assumption)
                    obtain ⟨i011, hi011, _, hsz11, _⟩ := info_parts info72
                    have hroom11 : (rd_L1 l0 x12_1).length ≤ c146_0 := HC146_0.out
                    have hC11 : Kd.F (Kd.int .i32) _ _ A146_0 (rd_L1 l0 x12_1).length (rd_L1 l0 x12_1) := (Kd.V_at (base := w.heap.size) HL146_0.out).2.2
                    have ql11 : (a1 : Int) ≤ (a2 : Int) := of_decide_eq_true (by first | (with_reducible assumption) | assumption)
                    have q011 : (0 : Int) ≤ (a1 : Int) := of_decide_eq_true (by first | (with_reducible assumption) | assumption)
                    have hcut11 := cut_mid (P := Try.prog) 61 72 .i64 .i64 Try.underlying61 hi011 1 hsz11 A146_0 (rd_L1 l0 x12_1).length c146_0 a1 a2 q011 ql11 q11 hroom11
                    have hr11 := Kd.F_mid (lo := (a1 : Int).toNat) (hi := (a2 : Int).toNat) (c := c146_0) hC11 (by omega) (by omega) hroom11
                    obtain ⟨A11, hA11⟩ : ∃ A1, A1 = (if c146_0 = (a1 : Int).toNat then A146_0 else (A146_0 : Option Addr).map (·.add ((a1 : Int).toNat * 1))) := ⟨_, rfl⟩
                    obtain ⟨c11, hc11⟩ : ∃ c1, c1 = c146_0 - (a1 : Int).toNat := ⟨_, rfl⟩
                    have hy11 : y147.length = (a2 : Int).toNat - (a1 : Int).toNat := (by rw [Ny147.out, List.length_drop, List.length_take] <;> omega)
                    rw [show ((rd_L1 l0 x12_1).take (a2 : Int).toNat).drop (a1 : Int).toNat = y147 from Ny147.out.symm] at hr11
                    replace hr11 : Kd.F (Kd.int .i32) _ _ A11 y147.length y147 := (by rw [hA11]; exact hr11)
                    rw [← hy11, ← hA11, ← hc11] at hcut11
                    have HO151 := Aside0.mk (show Kd.V (Kd.int .i32) 72 _ w.heap.size _ (.slice A11 y147.length c11) y147 from Kd.V_mk (by rw [hy11, hc11]; exact Nat.sub_le_sub_right (Nat.le_trans (by omega) hroom11) _) hr11)
                    have HC151 := Aside0.mk (show y147.length ≤ c11 from by rw [hy11, hc11]; exact Nat.sub_le_sub_right (Nat.le_trans (by omega) hroom11) _)
                    clear hr11 hC11 hroom11 hi011 hsz11 hc11
                    have KY11 := Aside0.mk hy11
                    have KA11 := Aside0.mk hA11
                    clear hy11 hA11
                    replace q11 := eq_true q11
                    go_wp2_with (first | ((with_reducible refine gate_builtin (b := .append) (xs := #[.tmp 16, .tmp 21]) rfl ?_); at_builtin; refine Kd.N_append (Kd.slice 72 (Kd.int .i32)) (w0 := w) w.heap.size rfl (.tmp 16) (.tmp 21) 62 61 (.slice none 0 0) 24 rfl Try.underlying62 info61 rfl (by decide) (by omega) u7 x7_1 y147 [.slice A11 y147.length c11] (fun k_ => (P0_ k_ ∨ w.heap.size ≤ k_)) (fun k_ => ((fun k_ => (P0_ k_ ∨ w.heap.size ≤ k_))) k_ ∧ some k_ ≠ (u7 : Value).ownBlock) rfl rfl ?aP (fun _ hk => hk) ?aF ?aO ?aB ?aS ?aL ?_; (case aP => exact (Kd.FK_slice_mk (Kd.V_reads' (Kd.V_mono (ok' := (fun k_ => ((fun k_ => (P0_ k_ ∨ w.heap.size ≤ k_))) k_ ∧ some k_ ≠ (u7 : Value).ownBlock)) (HO151.out) (fun k_ hk => ⟨hk.1, hk.2⟩))).2.1 (Kd.V_F (Kd.V_mono (ok' := (fun k_ => ((fun k_ => (P0_ k_ ∨ w.heap.size ≤ k_))) k_ ∧ some k_ ≠ (u7 : Value).ownBlock)) (HO151.out) (fun k_ hk => ⟨hk.1, hk.2⟩))))); (case aB => exact (by repeat (first | (with_reducible first | exact HB.out | apply below_alloc | apply pw_below_drewN | apply below_drew1) | exact HB.out))); (case aF => exact (fun k_ hk => (.inr (Nat.le_trans (below_size (by repeat (first | (with_reducible first | exact HB.out | apply below_alloc | apply pw_below_drewN | apply below_drew1) | exact HB.out))) hk)))); (case aO => exact (by (with_reducible repeat (first | apply Kd.N_alloc | apply Kd.N_drewN | apply Kd.N_drew)); exact HO_7.out)); (case aS => exact (below_size (by repeat (first | (with_reducible first | exact HB.out | apply below_alloc | apply pw_below_drewN | apply below_drew1) | exact HB.out)))); (case aL => have := LMc10.out; omega); intro v153 w12 ho hb hg hat; rw [← Ny152.out] at ho; have n0_ := Aside0.mk (Kd.V_afterv (ok := (fun k_ => (P0_ k_ ∨ w.heap.size ≤ k_))) (by (with_reducible repeat (first | apply Kd.V_alloc | apply Kd.V_drewN | apply Kd.V_drew)); exact HO_10.out) hg hat); have n1_ := Aside0.mk (Kd.V_afterv (ok := (fun k_ => (P0_ k_ ∨ w.heap.size ≤ k_))) (by (with_reducible repeat (first | apply Kd.V_alloc | apply Kd.V_drewN | apply Kd.V_drew)); exact HL146_0.out) hg hat); have n2_ := Aside0.mk (Kd.V_afterv (ok := (fun k_ => (P0_ k_ ∨ w.heap.size ≤ k_))) (by (with_reducible repeat (first | apply Kd.V_alloc | apply Kd.V_drewN | apply Kd.V_drew)); exact HO151.out) hg hat); have n3_ := Aside0.mk (hb); have n4_ := Aside0.mk (ho); clear HO_10; clear HL146_0; clear HO151; clear HB; clear HO_7; have HO_10 := n0_; have HL146_0 := n1_; have HO151 := n2_; have HB := n3_; have HO154 := n4_; clear n0_ n1_ n2_ n3_ n4_; clear ho hb hg hat))
                    go_roundg k1
                    case measure => have := HK1.out; omega
                    case rel => exact ⟨(y152), (wrap64 (x12_1 + 1)), (by first | rfl | (simp; done) | (simp [*]; done)), H', ⟨by have := HK1.out; omega⟩, ⟨by (with_reducible repeat (first | apply Kd.N_alloc | apply Kd.N_drewN | apply Kd.N_drew)); exact HO154.out⟩, ⟨by (with_reducible repeat (first | apply Kd.V_alloc | apply Kd.V_drewN | apply Kd.V_drew)); exact HO_10.out⟩, ⟨by repeat (first | (with_reducible first | exact HB.out | apply below_alloc | apply pw_below_drewN | apply below_drew1) | exact HB.out)⟩⟩
                  · rw [if_neg c10] at H
                    exact absurd H (by simp)
                · rw [if_neg c9] at H
                  exact absurd H (by simp)
              · rw [if_neg c8] at H
                exact absurd H (by simp)
            · rw [if_neg c7] at H
              exact absurd H (by simp)
          · rw [if_neg c6] at H
            exact absurd H (by simp)
        · rw [if_neg c5] at H
          exact absurd H (by simp)
      · rw [if_neg c4] at H
        have c4b0 : decide (x12_1 < (l0.length : Int)) = false := decide_eq_false c4
        clear c4
        obtain rfl := Option.some.inj H
        go_wp2
        go_ret
        exact ⟨_, by first | rfl | (simp [errW_none, errW_some] <;> rfl) | (simp [*, errW_none, errW_some] <;> rfl), by (with_reducible repeat (first | apply Kd.N_alloc | apply Kd.N_drewN | apply Kd.N_drew)); exact HO_7.out, by repeat (first | (with_reducible first | exact HB.out | apply below_alloc | apply pw_below_drewN | apply below_drew1) | exact HB.out)⟩

/-! ### api_Num: function 68 -/
def api_Num.l0 : Nat → List Int → Int → Int → Option (Int)
  | 0, _, _, _ => none
  | k + 1, x0, x3, x4 => if x4 < (x0.length : Int) then (if 0 ≤ x4 then (api_Num.l0 k x0 (mx x3 (rd x0 x4)) (wrap64 (x4 + 1))) else (none)) else (some x3)
def api_Num.f (k : Nat) (l0 : List Int) : Option (Int) := if (l0.length : Int) < 1 then (none) else (if 0 < (l0.length : Int) then (api_Num.l0 k l0 (rd l0 0) 1) else (none))
theorem api_Num.mono_l : ∀ k, (∀ y0 y1 y2, LeO (api_Num.l0 k y0 y1 y2) (api_Num.l0 (k + 1) y0 y1 y2))
  | 0 => fun _ _ _ r h => by simp [api_Num.l0] at h
  | k + 1 => by
    have ih0 := api_Num.mono_l k
    · intro y0 y1 y2
      unfold api_Num.l0
      repeat' first
      | (with_reducible exact ih0 _ _ _)
      | (with_reducible exact LeO.refl _)
      | (with_reducible exact LeO.none _)
      | (with_reducible refine LeO.ite ?_ ?_)
      | (with_reducible refine LeO.bind ?_ (fun _ => ?_))
      | exact ih0 _ _ _
      | exact LeO.none _
      | refine LeO.ite ?_ ?_
      | refine LeO.bind ?_ (fun _ => ?_)
theorem api_Num.mono : ∀ a0 k, LeO (api_Num.f k a0) (api_Num.f (k + 1) a0) := by
  intro a0 k
  have ih0 := api_Num.mono_l k
  unfold api_Num.f
  repeat' first
      | (with_reducible exact ih0 _ _ _)
      | (with_reducible exact LeO.refl _)
      | (with_reducible exact LeO.none _)
      | (with_reducible refine LeO.ite ?_ ?_)
      | (with_reducible refine LeO.bind ?_ (fun _ => ?_))
      | exact ih0 _ _ _
      | exact LeO.none _
      | refine LeO.ite ?_ ?_
      | refine LeO.bind ?_ (fun _ => ?_)
set_option maxHeartbeats 8000000 in
set_option maxRecDepth 100000 in
theorem api_Num.calls (k : Nat) (A0 : Option Addr) (c0 : Nat) (l0 : List Int) (r : Int) (w : World) (hr0 : Kd.C (Kd.int .i32) w A0 l0.length l0) (hc0 : l0.length ≤ c0) (h : api_Num.f k l0 = some r) :
    Calls Try.prog 68 #[.slice A0 l0.length c0] w fun e w' => e = .returned (.int .i32 r) ∧ Below w.heap.size w w' := by
  have HR0 := Aside0.mk hr0
  have HC0 := Aside0.mk hc0
  clear hr0 hc0
  have HB := Aside0.mk (Below.refl w.heap.size w)
  have H : (if (l0.length : Int) < 1 then (none) else (if 0 < (l0.length : Int) then (api_Num.l0 k l0 (rd l0 0) 1) else (none))) = some r := h
  clear h
  by_cases c2 : (l0.length : Int) < 1
  · rw [if_pos c2] at H
    exact absurd H (by simp)
  · rw [if_neg c2] at H
    have c2b0 : decide ((l0.length : Int) < 1) = false := decide_eq_false c2
    have c2b1 : decide (l0.length < 1) = false := decide_eq_false (by omega)
    clear c2
    by_cases c3 : 0 < (l0.length : Int)
    · rw [if_pos c3] at H
      have c3b0 : decide (0 < (l0.length : Int)) = true := decide_eq_true c3
      have c3b1 : decide (0 < l0.length) = true := decide_eq_true (by omega)
      clear c3
      have H' := Aside0.mk H
      clear H
      have p155 : 0 ≤ (0 : Int) := (by omega)
      have q155 : 0 < (l0.length : Int) := of_decide_eq_true (by first | (with_reducible assumption) | assumption)
      obtain ⟨ad155, e155, hx155_0⟩ := Kd.at_int HR0.out 0 p155 q155
      cases e155
      have qi155 : (0 < l0.length) = True := eq_true (by omega)
      (try rw [show ((0 : Int)).toNat = 0 from rfl] at hx155_0)
      (try rw [Addr.add_zero'] at hx155_0)
      replace p155 := eq_true p155
      replace q155 := eq_true q155
      go_enter Try.func68, Try.ntmps68
      go_wp2
      go_loopg [3, 4] k (fun kq v3 v4 w' => ∃ (x3_1 : Int) (x4_1 : Int), v3 = .int .i32 x3_1 ∧ v4 = .int .i64 x4_1 ∧ Aside0 (api_Num.l0 kq l0 x3_1 x4_1 = some r) ∧ Aside0 (kq ≤ k) ∧ Aside0 (Below w.heap.size w w'))
      case atStart => exact ⟨(rd l0 0), (1), (by first | rfl | (simp; done) | (simp [*]; done)), (by first | rfl | (simp; done) | (simp [*]; done)), H', ⟨Nat.le_refl _⟩, ⟨by repeat (first | (with_reducible first | exact HB.out | apply below_alloc | apply pw_below_drewN | apply below_drew1) | exact HB.out)⟩⟩
      case round =>
        clear H'
        try clear p1
        try clear q1
        try clear hx1
        try clear qi1
        try clear c2
        try clear c2b0
        try clear c2b1
        try clear p2
        try clear c3
        try clear c3b0
        try clear c3b1
        try clear hx155_0
        try clear p155
        try clear q155
        obtain ⟨x3_1, x4_1, rfl, rfl, HA, HK1, HB⟩ := hrel
        cases gk with
        | zero => exact absurd HA.out (by simp [api_Num.l0])
        | succ k1 =>
          have H := HA.out
          clear HA
          simp only [api_Num.l0] at H
          by_cases c4 : x4_1 < (l0.length : Int)
          · rw [if_pos c4] at H
            have c4b0 : decide (x4_1 < (l0.length : Int)) = true := decide_eq_true c4
            clear c4
            by_cases c5 : 0 ≤ x4_1
            · rw [if_pos c5] at H
              have c5b0 : decide (0 ≤ x4_1) = true := decide_eq_true c5
              clear c5
              obtain ⟨ji6, hji6⟩ : ∃ j_ : Int, (mx x3_1 (rd l0 x4_1)) = j_ := ⟨_, rfl⟩
              replace H : (api_Num.l0 k1 l0 ji6 (wrap64 (x4_1 + 1))) = some r := by first | (rw [hji6] at H; exact H) | (simp only [hji6] at H ⊢; exact H)
              have hji6_ : (if x3_1 < (rd l0 x4_1) then (rd l0 x4_1) else x3_1) = ji6 := hji6
              have H' := Aside0.mk H
              clear H
              have p156 : 0 ≤ (x4_1 : Int) := of_decide_eq_true (by first | (with_reducible assumption) | assumption)
              have q156 : x4_1 < (l0.length : Int) := of_decide_eq_true (by first | (with_reducible assumption) | assumption)
              obtain ⟨ad156, e156, hx156_0⟩ := Kd.at_int HR0.out x4_1 p156 q156
              obtain rfl : ad155 = ad156 := (by injection e156)
              (first | replace hx156_0 := (HB.out.cell (World.block_lt_of_cell? w _ hx156_0)).trans hx156_0 | skip)
              replace p156 := eq_true p156
              replace q156 := eq_true q156
              go_wp2
              go_roundg k1
              case measure => have := HK1.out; omega
              case rel => exact ⟨(ji6), (wrap64 (x4_1 + 1)), (by first | rfl | (simp; done) | (simp only [← hji6] <;> (first | rfl | simp)) | (simp [*]; done)), (by first | rfl | (simp; done) | (simp [*]; done)), H', ⟨by have := HK1.out; omega⟩, ⟨by repeat (first | (with_reducible first | exact HB.out | apply below_alloc | apply pw_below_drewN | apply below_drew1) | exact HB.out)⟩⟩
            · rw [if_neg c5] at H
              exact absurd H (by simp)
          · rw [if_neg c4] at H
            have c4b0 : decide (x4_1 < (l0.length : Int)) = false := decide_eq_false c4
            clear c4
            obtain rfl := Option.some.inj H
            go_wp2
            go_ret
            exact ⟨by first | rfl | (simp [errW_none, errW_some] <;> rfl) | (simp [*, errW_none, errW_some] <;> rfl), by repeat (first | (with_reducible first | exact HB.out | apply below_alloc | apply pw_below_drewN | apply below_drew1) | exact HB.out)⟩
    · rw [if_neg c3] at H
      exact absurd H (by simp)

end Go.Proofs.Ytepbebelbcbciaa.Q
