/- Functions of the program as plain Lean functions, each with a proof that the program's call comes to what it says; and rows of statements over them. No condition but those that the theorems name. Written by a program of this session (myprint.py, over the kit's print with patches of its own). -/
import Derived.Test.YtepbebelbcbciaaQx0
namespace Go.Proofs.Ytepbebelbcbciaa.Q
open Go.RowKit Go.Proofs.YtepbebelbcbciaaW.PrintWords Go.Proofs.YtepbebelbcbciaaW.PrintLast Go.Proofs.YtepbebelbcbciaaW.PrintMore
attribute [local go_sem] max2_int min2_int max_two min_two max_three min_three max_four min_four   -- for this text's walks alone
set_option linter.unusedVariables false
set_option linter.unusedSimpArgs false

/-! ### tillerref11_shaped: function 39 -/
mutual
def tillerref11_shaped.l0 : Nat → Int → Int → Bool → List (List (List Int)) → Int → Int → Option (Bool)
 | 0, _, _, _, _, _, _ => none
 | k + 1, x1, x2, x7, x12, x13, x14 => if x14 < x13 then (if 0 ≤ x14 then (if x14 < (x12.length : Int) then (if x7 = true then (tillerref11_shaped.j1 k x1 x2 (((rd_L3 x12 x14).length : Int) == x1) (rd_L3 x12 x14) x12 x13 x14) else (tillerref11_shaped.j1 k x1 x2 false (rd_L3 x12 x14) x12 x13 x14)) else (none)) else (none)) else (some x7)
def tillerref11_shaped.j1 : Nat → Int → Int → Bool → List (List Int) → List (List (List Int)) → Int → Int → Option (Bool)
 | 0, _, _, _, _, _, _, _ => none
 | k + 1, x1, x2, x7, x9, x12, x13, x14 => tillerref11_shaped.l1 k x1 x2 x7 x12 x13 x14 x9 (x9.length : Int) 0
def tillerref11_shaped.l1 : Nat → Int → Int → Bool → List (List (List Int)) → Int → Int → List (List Int) → Int → Int → Option (Bool)
 | 0, _, _, _, _, _, _, _, _, _ => none
 | k + 1, x1, x2, x7, x12, x13, x14, x25, x26, x27 => if x27 < x26 then (if 0 ≤ x27 then (if x27 < (x25.length : Int) then (if x7 = true then (tillerref11_shaped.l1 k x1 x2 (((rd_L2 x25 x27).length : Int) == x2) x12 x13 x14 x25 x26 (wrap64 (x27 + 1))) else (tillerref11_shaped.l1 k x1 x2 false x12 x13 x14 x25 x26 (wrap64 (x27 + 1)))) else (none)) else (none)) else (tillerref11_shaped.l0 k x1 x2 x7 x12 x13 (wrap64 (x14 + 1)))
end
def tillerref11_shaped.f (k : Nat) (l0 : List (List (List Int))) (a1 : Int) (a2 : Int) : Option (Bool) := tillerref11_shaped.l0 k a1 a2 true l0 (l0.length : Int) 0
theorem tillerref11_shaped.mono_l : ∀ k, (∀ y0 y1 y2 y3 y4 y5, LeO (tillerref11_shaped.l0 k y0 y1 y2 y3 y4 y5) (tillerref11_shaped.l0 (k + 1) y0 y1 y2 y3 y4 y5)) ∧ (∀ y0 y1 y2 y3 y4 y5 y6, LeO (tillerref11_shaped.j1 k y0 y1 y2 y3 y4 y5 y6) (tillerref11_shaped.j1 (k + 1) y0 y1 y2 y3 y4 y5 y6)) ∧ (∀ y0 y1 y2 y3 y4 y5 y6 y7 y8, LeO (tillerref11_shaped.l1 k y0 y1 y2 y3 y4 y5 y6 y7 y8) (tillerref11_shaped.l1 (k + 1) y0 y1 y2 y3 y4 y5 y6 y7 y8))
 | 0 => ⟨fun _ _ _ _ _ _ r h => by simp [tillerref11_shaped.l0] at h, fun _ _ _ _ _ _ _ r h => by simp [tillerref11_shaped.j1] at h, fun _ _ _ _ _ _ _ _ _ r h => by simp [tillerref11_shaped.l1] at h⟩
 | k + 1 => by
  obtain ⟨ih0, ih1, ih2⟩ := tillerref11_shaped.mono_l k
  refine ⟨?_, ?_, ?_⟩
  ·intro y0 y1 y2 y3 y4 y5
   unfold tillerref11_shaped.l0
   repeat' first
   | (with_reducible exact ih0 _ _ _ _ _ _)
   | (with_reducible exact ih1 _ _ _ _ _ _ _)
   | (with_reducible exact ih2 _ _ _ _ _ _ _ _ _)
   | (with_reducible exact LeO.refl _)
   | (with_reducible exact LeO.none _)
   | (with_reducible refine LeO.ite ?_ ?_)
   | (with_reducible refine LeO.bind ?_ (fun _ => ?_))
   | exact ih0 _ _ _ _ _ _
   | exact ih1 _ _ _ _ _ _ _
   | exact ih2 _ _ _ _ _ _ _ _ _
   | exact LeO.none _
   | refine LeO.ite ?_ ?_
   | refine LeO.bind ?_ (fun _ => ?_)
  ·intro y0 y1 y2 y3 y4 y5 y6
   unfold tillerref11_shaped.j1
   repeat' first
   | (with_reducible exact ih0 _ _ _ _ _ _)
   | (with_reducible exact ih1 _ _ _ _ _ _ _)
   | (with_reducible exact ih2 _ _ _ _ _ _ _ _ _)
   | (with_reducible exact LeO.refl _)
   | (with_reducible exact LeO.none _)
   | (with_reducible refine LeO.ite ?_ ?_)
   | (with_reducible refine LeO.bind ?_ (fun _ => ?_))
   | exact ih0 _ _ _ _ _ _
   | exact ih1 _ _ _ _ _ _ _
   | exact ih2 _ _ _ _ _ _ _ _ _
   | exact LeO.none _
   | refine LeO.ite ?_ ?_
   | refine LeO.bind ?_ (fun _ => ?_)
  ·intro y0 y1 y2 y3 y4 y5 y6 y7 y8
   unfold tillerref11_shaped.l1
   repeat' first
   | (with_reducible exact ih0 _ _ _ _ _ _)
   | (with_reducible exact ih1 _ _ _ _ _ _ _)
   | (with_reducible exact ih2 _ _ _ _ _ _ _ _ _)
   | (with_reducible exact LeO.refl _)
   | (with_reducible exact LeO.none _)
   | (with_reducible refine LeO.ite ?_ ?_)
   | (with_reducible refine LeO.bind ?_ (fun _ => ?_))
   | exact ih0 _ _ _ _ _ _
   | exact ih1 _ _ _ _ _ _ _
   | exact ih2 _ _ _ _ _ _ _ _ _
   | exact LeO.none _
   | refine LeO.ite ?_ ?_
   | refine LeO.bind ?_ (fun _ => ?_)
theorem tillerref11_shaped.mono : ∀ a0 a1 a2 k, LeO (tillerref11_shaped.f k a0 a1 a2) (tillerref11_shaped.f (k + 1) a0 a1 a2) := by
 intro a0 a1 a2 k
 obtain ⟨ih0, ih1, ih2⟩ := tillerref11_shaped.mono_l k
 unfold tillerref11_shaped.f
 repeat' first
   | (with_reducible exact ih0 _ _ _ _ _ _)
   | (with_reducible exact ih1 _ _ _ _ _ _ _)
   | (with_reducible exact ih2 _ _ _ _ _ _ _ _ _)
   | (with_reducible exact LeO.refl _)
   | (with_reducible exact LeO.none _)
   | (with_reducible refine LeO.ite ?_ ?_)
   | (with_reducible refine LeO.bind ?_ (fun _ => ?_))
   | exact ih0 _ _ _ _ _ _
   | exact ih1 _ _ _ _ _ _ _
   | exact ih2 _ _ _ _ _ _ _ _ _
   | exact LeO.none _
   | refine LeO.ite ?_ ?_
   | refine LeO.bind ?_ (fun _ => ?_)
set_option maxHeartbeats 8000000 in
set_option maxRecDepth 100000 in
theorem tillerref11_shaped.calls (k : Nat) (A0 : Option Addr) (c0 : Nat) (l0 : List (List (List Int))) (a1 : Int) (a2 : Int) (r : Bool) (w : World) (hr0 : Kd.C (Kd.slice 61 (Kd.slice 72 (Kd.int .i32))) w A0 l0.length l0) (hc0 : l0.length ≤ c0) (h : tillerref11_shaped.f k l0 a1 a2 = some r) :
  Calls Try.prog 39 #[.slice A0 l0.length c0, .int .i64 a1, .int .i64 a2] w fun e w' => e = .returned (.bool r) ∧ Drawn0 w w' := by
 have HR0 := Aside0.mk hr0
 have HC0 := Aside0.mk hc0
 clear hr0 hc0
 have H : (tillerref11_shaped.l0 k a1 a2 true l0 (l0.length : Int) 0) = some r := h
 clear h
 have H' := Aside0.mk H
 clear H
 go_enter Try.func39, Try.ntmps39
 go_wp2
 go_loopg [7, 14] k (fun kq v7 v14 w' => ∃ (x7_1 : Bool) (x14_1 : Int), v7 = .bool x7_1 ∧ v14 = .int .i64 x14_1 ∧ Aside0 (tillerref11_shaped.l0 kq a1 a2 x7_1 l0 (l0.length : Int) x14_1 = some r) ∧ Aside0 (kq ≤ k) ∧ Drawn0 w w')
 case atStart => exact ⟨(true), (0), rs, rs, H', ⟨Nat.le_refl _⟩, by repeat (first | exact Drawn0.refl _ | apply Drawn0.step)⟩
 case round =>
  clear H'
  try clear p2
  try clear c3
  obtain ⟨x7_1, x14_1, rfl, rfl, HA, HK1, ⟨m1, rfl⟩⟩ := hrel
  cases gk with
  | zero => exact absurd HA.out (by simp [tillerref11_shaped.l0])
  | succ k1 =>
   have H := HA.out
   clear HA
   simp only [tillerref11_shaped.l0] at H
   by_cases c4 : x14_1 < (l0.length : Int)
   ·rw [if_pos c4] at H
    have c4b0 : decide (x14_1 < (l0.length : Int)) = true := decide_eq_true c4
    clear c4
    by_cases c5 : 0 ≤ x14_1
    ·rw [if_pos c5] at H
     have c5b0 : decide (0 ≤ x14_1) = true := decide_eq_true c5
     clear c5
     by_cases c6 : x14_1 < (l0.length : Int)
     ·rw [if_pos c6] at H
      have c6b0 : decide (x14_1 < (l0.length : Int)) = true := decide_eq_true c6
      clear c6
      have HC7 := Aside0.mk H
      clear H
      have p221 : 0 ≤ (x14_1 : Int) := of_decide_eq_true asm
      have q221 : x14_1 < (l0.length : Int) := of_decide_eq_true asm
      obtain ⟨ad221, A221_0, c221_0, e221, hx221_0, hl221_0, hi221_0⟩ := at_L3 HR0.out x14_1 p221 q221
      cases e221
      have HR221_0 := Aside0.mk hi221_0
      have HC221_0 := Aside0.mk hl221_0
      clear hi221_0 hl221_0
      replace p221 := eq_true p221
      replace q221 := eq_true q221
      go_upto_region 5 with (fail)
      go_cut [7] (fun v7 wc => ∃ (kq : Nat) (x7_6 : Bool), v7 = .bool x7_6 ∧ Aside0 (tillerref11_shaped.j1 kq a1 a2 x7_6 (rd_L3 l0 x14_1) l0 (l0.length : Int) x14_1 = some r) ∧ Aside0 (kq ≤ k1) ∧ Drawn0 w wc)
      case first =>
       have H := HC7.out
       clear HC7
       by_cases c8 : x7_1 = true
       ·subst c8
        have H1 : (tillerref11_shaped.j1 k1 a1 a2 (((rd_L3 l0 x14_1).length : Int) == a1) (rd_L3 l0 x14_1) l0 (l0.length : Int) x14_1) = some r := by rw [if_pos rfl] at H; exact H
        clear H
        have H := H1
        clear H1
        have H' := Aside0.mk H
        clear H
        go_wp2
        go_meet
        case rel => exact ⟨_, ((((rd_L3 l0 x14_1).length : Int) == a1)), rs, H', ⟨by have := HK1.out; first | omega | exact Nat.le_refl _⟩, by repeat (first | exact Drawn0.refl _ | apply Drawn0.step)⟩
       ·replace c8 := Bool.eq_false_iff.mpr c8
        subst c8
        have H1 : (tillerref11_shaped.j1 k1 a1 a2 false (rd_L3 l0 x14_1) l0 (l0.length : Int) x14_1) = some r := by rw [if_neg (show ¬ (false = true) by decide)] at H; exact H
        clear H
        have H := H1
        clear H1
        have H' := Aside0.mk H
        clear H
        go_wp2
        go_meet
        case rel => exact ⟨_, (false), rs, H', ⟨by have := HK1.out; first | omega | exact Nat.le_refl _⟩, by repeat (first | exact Drawn0.refl _ | apply Drawn0.step)⟩
      case rest =>
       clear HC7
       try clear c2
       try clear p2
       try clear q2
       try clear hx2
       try clear c3
       try clear c4
       try clear c4b0
       try clear c5
       try clear c5b0
       try clear c6
       try clear c6b0
       try clear c8
       try clear hx221_0
       try clear p2
       try clear p221
       try clear q221
       obtain ⟨kq, x7_6, rfl, HA, HJ6, ⟨mc6, rfl⟩⟩ := hcut
       cases kq with
       | zero => exact absurd HA.out (by simp [tillerref11_shaped.j1])
       | succ kj6 =>
        have H := HA.out
        clear HA
        simp only [tillerref11_shaped.j1] at H
        have H' := Aside0.mk H
        clear H
        go_wp2
        go_loopg [7, 27] kj6 (fun kq v7 v27 w' => ∃ (x7_3 : Bool) (x27_3 : Int), v7 = .bool x7_3 ∧ v27 = .int .i64 x27_3 ∧ Aside0 (tillerref11_shaped.l1 kq a1 a2 x7_3 l0 (l0.length : Int) x14_1 (rd_L3 l0 x14_1) ((rd_L3 l0 x14_1).length : Int) x27_3 = some r) ∧ Aside0 (kq ≤ kj6) ∧ Drawn0 w w')
        case atStart => exact ⟨(x7_6), (0), rs, rs, H', ⟨Nat.le_refl _⟩, by repeat (first | exact Drawn0.refl _ | apply Drawn0.step)⟩
        case round =>
         clear H'
         try clear c2
         try clear p2
         try clear q2
         try clear hx2
         try clear c3
         try clear c4
         try clear c4b0
         try clear c5
         try clear c5b0
         try clear c6
         try clear c6b0
         try clear c8
         try clear hx221_0
         try clear p2
         try clear p221
         try clear q2
         try clear q221
         obtain ⟨x7_3, x27_3, rfl, rfl, HA, HK3, ⟨m3, rfl⟩⟩ := hrel
         cases gk with
         | zero => exact absurd HA.out (by simp [tillerref11_shaped.l1])
         | succ k3 =>
          have H := HA.out
          clear HA
          simp only [tillerref11_shaped.l1] at H
          by_cases c9 : x27_3 < ((rd_L3 l0 x14_1).length : Int)
          ·rw [if_pos c9] at H
           have c9b0 : decide (x27_3 < ((rd_L3 l0 x14_1).length : Int)) = true := decide_eq_true c9
           clear c9
           by_cases c10 : 0 ≤ x27_3
           ·rw [if_pos c10] at H
            have c10b0 : decide (0 ≤ x27_3) = true := decide_eq_true c10
            clear c10
            by_cases c11 : x27_3 < ((rd_L3 l0 x14_1).length : Int)
            ·rw [if_pos c11] at H
             have c11b0 : decide (x27_3 < ((rd_L3 l0 x14_1).length : Int)) = true := decide_eq_true c11
             clear c11
             by_cases c12 : x7_3 = true
             ·subst c12
              have H1 : (tillerref11_shaped.l1 k3 a1 a2 (((rd_L2 (rd_L3 l0 x14_1) x27_3).length : Int) == a2) l0 (l0.length : Int) x14_1 (rd_L3 l0 x14_1) ((rd_L3 l0 x14_1).length : Int) (wrap64 (x27_3 + 1))) = some r := by rw [if_pos rfl] at H; exact H
              clear H
              have H := H1
              clear H1
              have H' := Aside0.mk H
              clear H
              have p222 : 0 ≤ (x27_3 : Int) := of_decide_eq_true asm
              have q222 : x27_3 < ((rd_L3 l0 x14_1).length : Int) := of_decide_eq_true asm
              obtain ⟨ad222, A222_0, c222_0, e222, hx222_0, hl222_0, hi222_0⟩ := at_L2 HR221_0.out x27_3 p222 q222
              cases e222
              have HR222_0 := Aside0.mk hi222_0
              have HC222_0 := Aside0.mk hl222_0
              clear hi222_0 hl222_0
              replace p222 := eq_true p222
              replace q222 := eq_true q222
              go_wp2
              go_roundg k3
              case measure => have := HK1.out; have := HJ6.out; have := HK3.out; omega
              case rel => exact ⟨((((rd_L2 (rd_L3 l0 x14_1) x27_3).length : Int) == a2)), (wrap64 (x27_3 + 1)), rs, rs, H', ⟨by have := HK1.out; have := HJ6.out; have := HK3.out; omega⟩, by repeat (first | exact Drawn0.refl _ | apply Drawn0.step)⟩
             ·replace c12 := Bool.eq_false_iff.mpr c12
              subst c12
              have H1 : (tillerref11_shaped.l1 k3 a1 a2 false l0 (l0.length : Int) x14_1 (rd_L3 l0 x14_1) ((rd_L3 l0 x14_1).length : Int) (wrap64 (x27_3 + 1))) = some r := by rw [if_neg (show ¬ (false = true) by decide)] at H; exact H
              clear H
              have H := H1
              clear H1
              have H' := Aside0.mk H
              clear H
              have p222 : 0 ≤ (x27_3 : Int) := of_decide_eq_true asm
              have q222 : x27_3 < ((rd_L3 l0 x14_1).length : Int) := of_decide_eq_true asm
              obtain ⟨ad222, A222_0, c222_0, e222, hx222_0, hl222_0, hi222_0⟩ := at_L2 HR221_0.out x27_3 p222 q222
              cases e222
              have HR222_0 := Aside0.mk hi222_0
              have HC222_0 := Aside0.mk hl222_0
              clear hi222_0 hl222_0
              replace p222 := eq_true p222
              replace q222 := eq_true q222
              go_wp2
              go_roundg k3
              case measure => have := HK1.out; have := HJ6.out; have := HK3.out; omega
              case rel => exact ⟨(false), (wrap64 (x27_3 + 1)), rs, rs, H', ⟨by have := HK1.out; have := HJ6.out; have := HK3.out; omega⟩, by repeat (first | exact Drawn0.refl _ | apply Drawn0.step)⟩
            ·rw [if_neg c11] at H
             exact absurd H (by simp)
           ·rw [if_neg c10] at H
            exact absurd H (by simp)
          ·rw [if_neg c9] at H
           have c9b0 : decide (x27_3 < ((rd_L3 l0 x14_1).length : Int)) = false := decide_eq_false c9
           clear c9
           have H' := Aside0.mk H
           clear H
           go_wp2
           go_roundg k3
           case measure => have := HK1.out; have := HJ6.out; have := HK3.out; omega
           case rel => exact ⟨(x7_3), (wrap64 (x14_1 + 1)), rs, rs, H', ⟨by have := HK1.out; have := HJ6.out; have := HK3.out; omega⟩, by repeat (first | exact Drawn0.refl _ | apply Drawn0.step)⟩
     ·rw [if_neg c6] at H
      exact absurd H (by simp)
    ·rw [if_neg c5] at H
     exact absurd H (by simp)
   ·rw [if_neg c4] at H
    have c4b0 : decide (x14_1 < (l0.length : Int)) = false := decide_eq_false c4
    clear c4
    obtain rfl := Option.some.inj H
    go_wp2
    go_ret
    exact ⟨by first | rfl | (simp; done) | (simp [*]; done), by repeat (first | exact Drawn0.refl _ | apply Drawn0.step)⟩

end Go.Proofs.Ytepbebelbcbciaa.Q
