/- Functions of the program as plain Lean functions, each with a proof that the program's call comes to what it says; and rows of statements over them. No condition but those that the theorems name. Written by a program of this session (myprint.py, over the kit's print with patches of its own). -/
import Derived.Test.YtepbebelbcbciaaQx0
import Derived.Test.YtepbebelbcbciaaQx11
namespace Go.Proofs.Ytepbebelbcbciaa.Q
open Go.RowKit Go.Proofs.YtepbebelbcbciaaW.PrintWords Go.Proofs.YtepbebelbcbciaaW.PrintLast Go.Proofs.YtepbebelbcbciaaW.PrintMore
attribute [local go_sem] max2_int min2_int max_two min_two max_three min_three max_four min_four   -- for this text's walks alone
set_option linter.unusedVariables false
set_option linter.unusedSimpArgs false

/-! ### tillerref08_Same: function 45 -/
mutual
def tillerref08_Same.l0 : Nat → List (List (List Int)) → List (List (List Int)) → Int → Int → Option (Bool)
 | 0, _, _, _, _ => none
 | k + 1, x0, x1, x13, x14 => if x14 < x13 then (if 0 ≤ x14 then (if x14 < (x0.length : Int) then (if x14 < (x1.length : Int) then (if ((rd_L3 x0 x14).length : Int) = ((rd_L3 x1 x14).length : Int) then (tillerref08_Same.l1 k x0 x1 x14 x13 x14 ((rd_L3 x0 x14).length : Int) 0) else (some false)) else (none)) else (none)) else (none)) else (some true)
def tillerref08_Same.l1 : Nat → List (List (List Int)) → List (List (List Int)) → Int → Int → Int → Int → Int → Option (Bool)
 | 0, _, _, _, _, _, _, _ => none
 | k + 1, x0, x1, x5, x13, x14, x32, x33 => if x33 < x32 then (if 0 ≤ x5 then (if x5 < (x0.length : Int) then (if 0 ≤ x33 then (if x33 < ((rd_L3 x0 x5).length : Int) then (if x5 < (x1.length : Int) then (if x33 < ((rd_L3 x1 x5).length : Int) then ((tillerref03_Same.f k (rd_L2 (rd_L3 x0 x5) x33) (rd_L2 (rd_L3 x1 x5) x33)).bind fun t394 => (if t394 = true then (tillerref08_Same.l1 k x0 x1 x5 x13 x14 x32 (wrap64 (x33 + 1))) else (some false))) else (none)) else (none)) else (none)) else (none)) else (none)) else (none)) else (tillerref08_Same.l0 k x0 x1 x13 (wrap64 (x14 + 1)))
end
def tillerref08_Same.f (k : Nat) (l0 : List (List (List Int))) (l1 : List (List (List Int))) : Option (Bool) := if (l0.length : Int) = (l1.length : Int) then (tillerref08_Same.l0 k l0 l1 (l0.length : Int) 0) else (some false)
theorem tillerref08_Same.mono_l : ∀ k, (∀ y0 y1 y2 y3, LeO (tillerref08_Same.l0 k y0 y1 y2 y3) (tillerref08_Same.l0 (k + 1) y0 y1 y2 y3)) ∧ (∀ y0 y1 y2 y3 y4 y5 y6, LeO (tillerref08_Same.l1 k y0 y1 y2 y3 y4 y5 y6) (tillerref08_Same.l1 (k + 1) y0 y1 y2 y3 y4 y5 y6))
 | 0 => ⟨fun _ _ _ _ r h => by simp [tillerref08_Same.l0] at h, fun _ _ _ _ _ _ _ r h => by simp [tillerref08_Same.l1] at h⟩
 | k + 1 => by
  obtain ⟨ih0, ih1⟩ := tillerref08_Same.mono_l k
  refine ⟨?_, ?_⟩
  ·intro y0 y1 y2 y3
   unfold tillerref08_Same.l0
   repeat' first
   | (with_reducible exact ih0 _ _ _ _)
   | (with_reducible exact ih1 _ _ _ _ _ _ _)
   | (with_reducible exact tillerref03_Same.mono _ _ _)
   | (with_reducible exact LeO.refl _)
   | (with_reducible exact LeO.none _)
   | (with_reducible refine LeO.ite ?_ ?_)
   | (with_reducible refine LeO.bind ?_ (fun _ => ?_))
   | exact ih0 _ _ _ _
   | exact ih1 _ _ _ _ _ _ _
   | exact tillerref03_Same.mono _ _ _
   | exact LeO.none _
   | refine LeO.ite ?_ ?_
   | refine LeO.bind ?_ (fun _ => ?_)
  ·intro y0 y1 y2 y3 y4 y5 y6
   unfold tillerref08_Same.l1
   repeat' first
   | (with_reducible exact ih0 _ _ _ _)
   | (with_reducible exact ih1 _ _ _ _ _ _ _)
   | (with_reducible exact tillerref03_Same.mono _ _ _)
   | (with_reducible exact LeO.refl _)
   | (with_reducible exact LeO.none _)
   | (with_reducible refine LeO.ite ?_ ?_)
   | (with_reducible refine LeO.bind ?_ (fun _ => ?_))
   | exact ih0 _ _ _ _
   | exact ih1 _ _ _ _ _ _ _
   | exact tillerref03_Same.mono _ _ _
   | exact LeO.none _
   | refine LeO.ite ?_ ?_
   | refine LeO.bind ?_ (fun _ => ?_)
theorem tillerref08_Same.mono : ∀ a0 a1 k, LeO (tillerref08_Same.f k a0 a1) (tillerref08_Same.f (k + 1) a0 a1) := by
 intro a0 a1 k
 obtain ⟨ih0, ih1⟩ := tillerref08_Same.mono_l k
 unfold tillerref08_Same.f
 repeat' first
   | (with_reducible exact ih0 _ _ _ _)
   | (with_reducible exact ih1 _ _ _ _ _ _ _)
   | (with_reducible exact tillerref03_Same.mono _ _ _)
   | (with_reducible exact LeO.refl _)
   | (with_reducible exact LeO.none _)
   | (with_reducible refine LeO.ite ?_ ?_)
   | (with_reducible refine LeO.bind ?_ (fun _ => ?_))
   | exact ih0 _ _ _ _
   | exact ih1 _ _ _ _ _ _ _
   | exact tillerref03_Same.mono _ _ _
   | exact LeO.none _
   | refine LeO.ite ?_ ?_
   | refine LeO.bind ?_ (fun _ => ?_)
set_option maxHeartbeats 8000000 in
set_option maxRecDepth 100000 in
theorem tillerref08_Same.calls (k : Nat) (A0 : Option Addr) (c0 : Nat) (l0 : List (List (List Int))) (A1 : Option Addr) (c1 : Nat) (l1 : List (List (List Int))) (r : Bool) (w : World) (hr0 : Kd.C (Kd.slice 61 (Kd.slice 72 (Kd.int .i32))) w A0 l0.length l0) (hc0 : l0.length ≤ c0) (hr1 : Kd.C (Kd.slice 61 (Kd.slice 72 (Kd.int .i32))) w A1 l1.length l1) (hc1 : l1.length ≤ c1) (h : tillerref08_Same.f k l0 l1 = some r) :
  Calls Try.prog 45 #[.slice A0 l0.length c0, .slice A1 l1.length c1] w fun e w' => e = .returned (.bool r) ∧ Drawn0 w w' := by
 have HR0 := Aside0.mk hr0
 have HC0 := Aside0.mk hc0
 clear hr0 hc0
 have HR1 := Aside0.mk hr1
 have HC1 := Aside0.mk hc1
 clear hr1 hc1
 have H : (if (l0.length : Int) = (l1.length : Int) then (tillerref08_Same.l0 k l0 l1 (l0.length : Int) 0) else (some false)) = some r := h
 clear h
 by_cases c3 : (l0.length : Int) = (l1.length : Int)
 ·rw [if_pos c3] at H
  have c3b0 : ((l0.length : Int) == (l1.length : Int)) = true := beq_iff_eq.mpr c3
  have c3b1 : ((l0.length : Int) != (l1.length : Int)) = false := bne_eq_false_iff_eq.mpr c3
  have c3b2 : (l0.length == l1.length) = true := by first | simpa using c3 | (simp at c3 ⊢; omega)
  clear c3
  have H' := Aside0.mk H
  clear H
  go_enter Try.func45, Try.ntmps45
  go_wp2
  repeat (go_quiet (fail); try go_wp2)
  go_loopg [14] k (fun kq v14 w' => ∃ (x14_1 : Int), v14 = .int .i64 x14_1 ∧ Aside0 (tillerref08_Same.l0 kq l0 l1 (l0.length : Int) x14_1 = some r) ∧ Aside0 (kq ≤ k) ∧ Drawn0 w w')
  case atStart => exact ⟨(0), rs, H', ⟨Nat.le_refl _⟩, by repeat (first | exact Drawn0.refl _ | apply Drawn0.step)⟩
  case round =>
   clear H'
   try clear c1
   try clear p2
   try clear c3
   try clear c3b0
   try clear c3b1
   try clear c3b2
   obtain ⟨x14_1, rfl, HA, HK1, ⟨m1, rfl⟩⟩ := hrel
   cases gk with
   | zero => exact absurd HA.out (by simp [tillerref08_Same.l0])
   | succ k1 =>
    have H := HA.out
    clear HA
    simp only [tillerref08_Same.l0] at H
    by_cases c4 : x14_1 < (l0.length : Int)
    ·rw [if_pos c4] at H
     have c4b0 : decide (x14_1 < (l0.length : Int)) = true := decide_eq_true c4
     clear c4
     by_cases c5 : 0 ≤ x14_1
     ·rw [if_pos c5] at H
      have c5b0 : decide (0 ≤ x14_1) = true := decide_eq_true c5
      clear c5
      by_cases c6 : x14_1 < (l0.length : Int)
      ·rw [if_pos c6] at H
       have c6b0 : decide (x14_1 < (l0.length : Int)) = true := decide_eq_true c6
       clear c6
       by_cases c7 : x14_1 < (l1.length : Int)
       ·rw [if_pos c7] at H
        have c7b0 : decide (x14_1 < (l1.length : Int)) = true := decide_eq_true c7
        clear c7
        by_cases c8 : ((rd_L3 l0 x14_1).length : Int) = ((rd_L3 l1 x14_1).length : Int)
        ·rw [if_pos c8] at H
         have c8b0 : (((rd_L3 l0 x14_1).length : Int) == ((rd_L3 l1 x14_1).length : Int)) = true := beq_iff_eq.mpr c8
         have c8b1 : (((rd_L3 l0 x14_1).length : Int) != ((rd_L3 l1 x14_1).length : Int)) = false := bne_eq_false_iff_eq.mpr c8
         have c8b2 : ((rd_L3 l0 x14_1).length == (rd_L3 l1 x14_1).length) = true := by first | simpa using c8 | (simp at c8 ⊢; omega)
         clear c8
         have H' := Aside0.mk H
         clear H
         have p387 : 0 ≤ (x14_1 : Int) := of_decide_eq_true asm
         have q387 : x14_1 < (l0.length : Int) := of_decide_eq_true asm
         obtain ⟨ad387, A387_0, c387_0, e387, hx387_0, hl387_0, hi387_0⟩ := at_L3 HR0.out x14_1 p387 q387
         cases e387
         have HR387_0 := Aside0.mk hi387_0
         have HC387_0 := Aside0.mk hl387_0
         clear hi387_0 hl387_0
         replace p387 := eq_true p387
         replace q387 := eq_true q387
         have p388 : 0 ≤ (x14_1 : Int) := of_decide_eq_true asm
         have q388 : x14_1 < (l1.length : Int) := of_decide_eq_true asm
         obtain ⟨ad388, A388_0, c388_0, e388, hx388_0, hl388_0, hi388_0⟩ := at_L3 HR1.out x14_1 p388 q388
         cases e388
         have HR388_0 := Aside0.mk hi388_0
         have HC388_0 := Aside0.mk hl388_0
         clear hi388_0 hl388_0
         replace p388 := eq_true p388
         replace q388 := eq_true q388
         have p389 : 0 ≤ (x14_1 : Int) := of_decide_eq_true asm
         have q389 : x14_1 < (l0.length : Int) := of_decide_eq_true asm
         obtain ⟨ad389, A389_0, c389_0, e389, hx389_0, hl389_0, hi389_0⟩ := at_L3 HR0.out x14_1 p389 q389
         obtain rfl : ad387 = ad389 := (by injection e389)
         have HR389_0 := Aside0.mk hi389_0
         have HC389_0 := Aside0.mk hl389_0
         clear hi389_0 hl389_0
         replace p389 := eq_true p389
         replace q389 := eq_true q389
         have ea_ := Option.some.inj (hx387_0.symm.trans hx389_0)
         injection ea_ with ea_ en_ ec_
         subst ea_
         subst ec_
         clear en_
         go_wp2
         repeat (go_quiet (fail); try go_wp2)
         go_loopg [33] k1 (fun kq v33 w' => ∃ (x33_2 : Int), v33 = .int .i64 x33_2 ∧ Aside0 (tillerref08_Same.l1 kq l0 l1 x14_1 (l0.length : Int) x14_1 ((rd_L3 l0 x14_1).length : Int) x33_2 = some r) ∧ Aside0 (kq ≤ k1) ∧ Drawn0 w w')
         case atStart => exact ⟨(0), rs, H', ⟨Nat.le_refl _⟩, by repeat (first | exact Drawn0.refl _ | apply Drawn0.step)⟩
         case round =>
          clear H'
          try clear c1
          try clear p2
          try clear c3
          try clear c3b0
          try clear c3b1
          try clear c3b2
          try clear p3
          try clear q3
          try clear hx3
          try clear c4
          try clear c4b0
          try clear c5
          try clear c5b0
          try clear c6
          try clear c6b0
          try clear c7
          try clear c7b0
          try clear c8
          try clear c8b0
          try clear c8b1
          try clear c8b2
          try clear hx387_0
          try clear hx388_0
          try clear hx389_0
          try clear p2
          try clear p387
          try clear p388
          try clear p389
          try clear q387
          try clear q388
          try clear q389
          obtain ⟨x33_2, rfl, HA, HK2, ⟨m2, rfl⟩⟩ := hrel
          cases gk with
          | zero => exact absurd HA.out (by simp [tillerref08_Same.l1])
          | succ k2 =>
           have H := HA.out
           clear HA
           simp only [tillerref08_Same.l1] at H
           by_cases c9 : x33_2 < ((rd_L3 l0 x14_1).length : Int)
           ·rw [if_pos c9] at H
            have c9b0 : decide (x33_2 < ((rd_L3 l0 x14_1).length : Int)) = true := decide_eq_true c9
            clear c9
            by_cases c10 : 0 ≤ x14_1
            ·rw [if_pos c10] at H
             have c10b0 : decide (0 ≤ x14_1) = true := decide_eq_true c10
             clear c10
             by_cases c11 : x14_1 < (l0.length : Int)
             ·rw [if_pos c11] at H
              have c11b0 : decide (x14_1 < (l0.length : Int)) = true := decide_eq_true c11
              clear c11
              by_cases c12 : 0 ≤ x33_2
              ·rw [if_pos c12] at H
               have c12b0 : decide (0 ≤ x33_2) = true := decide_eq_true c12
               clear c12
               by_cases c13 : x33_2 < ((rd_L3 l0 x14_1).length : Int)
               ·rw [if_pos c13] at H
                have c13b0 : decide (x33_2 < ((rd_L3 l0 x14_1).length : Int)) = true := decide_eq_true c13
                clear c13
                by_cases c14 : x14_1 < (l1.length : Int)
                ·rw [if_pos c14] at H
                 have c14b0 : decide (x14_1 < (l1.length : Int)) = true := decide_eq_true c14
                 clear c14
                 by_cases c15 : x33_2 < ((rd_L3 l1 x14_1).length : Int)
                 ·rw [if_pos c15] at H
                  have c15b0 : decide (x33_2 < ((rd_L3 l1 x14_1).length : Int)) = true := decide_eq_true c15
                  clear c15
                  replace H := Option.bind_eq_some_iff.mp H
                  obtain ⟨t394, A160, H⟩ := H
                  replace H : (if t394 = true then (tillerref08_Same.l1 k2 l0 l1 x14_1 (l0.length : Int) x14_1 ((rd_L3 l0 x14_1).length : Int) (wrap64 (x33_2 + 1))) else (some false)) = some r := H
                  have A16 := Aside0.mk A160
                  clear A160
                  by_cases c17 : t394 = true
                  ·subst c17
                   have H1 : (tillerref08_Same.l1 k2 l0 l1 x14_1 (l0.length : Int) x14_1 ((rd_L3 l0 x14_1).length : Int) (wrap64 (x33_2 + 1))) = some r := by rw [if_pos rfl] at H; exact H
                   clear H
                   have H := H1
                   clear H1
                   have H' := Aside0.mk H
                   clear H
                   have p390 : 0 ≤ (x14_1 : Int) := of_decide_eq_true asm
                   have q390 : x14_1 < (l0.length : Int) := of_decide_eq_true asm
                   obtain ⟨ad390, A390_0, c390_0, e390, hx390_0, hl390_0, hi390_0⟩ := at_L3 HR0.out x14_1 p390 q390
                   obtain rfl : ad387 = ad390 := (by injection e390)
                   have HR390_0 := Aside0.mk hi390_0
                   have HC390_0 := Aside0.mk hl390_0
                   clear hi390_0 hl390_0
                   replace p390 := eq_true p390
                   replace q390 := eq_true q390
                   have p391 : 0 ≤ (x33_2 : Int) := of_decide_eq_true asm
                   have q391 : x33_2 < ((rd_L3 l0 x14_1).length : Int) := of_decide_eq_true asm
                   obtain ⟨ad391, A391_0, c391_0, e391, hx391_0, hl391_0, hi391_0⟩ := at_L2 HR390_0.out x33_2 p391 q391
                   cases e391
                   have HR391_0 := Aside0.mk hi391_0
                   have HC391_0 := Aside0.mk hl391_0
                   clear hi391_0 hl391_0
                   replace p391 := eq_true p391
                   replace q391 := eq_true q391
                   have p392 : 0 ≤ (x14_1 : Int) := of_decide_eq_true asm
                   have q392 : x14_1 < (l1.length : Int) := of_decide_eq_true asm
                   obtain ⟨ad392, A392_0, c392_0, e392, hx392_0, hl392_0, hi392_0⟩ := at_L3 HR1.out x14_1 p392 q392
                   obtain rfl : ad388 = ad392 := (by injection e392)
                   have HR392_0 := Aside0.mk hi392_0
                   have HC392_0 := Aside0.mk hl392_0
                   clear hi392_0 hl392_0
                   replace p392 := eq_true p392
                   replace q392 := eq_true q392
                   have p393 : 0 ≤ (x33_2 : Int) := of_decide_eq_true asm
                   have q393 : x33_2 < ((rd_L3 l1 x14_1).length : Int) := of_decide_eq_true asm
                   obtain ⟨ad393, A393_0, c393_0, e393, hx393_0, hl393_0, hi393_0⟩ := at_L2 HR392_0.out x33_2 p393 q393
                   cases e393
                   have HR393_0 := Aside0.mk hi393_0
                   have HC393_0 := Aside0.mk hl393_0
                   clear hi393_0 hl393_0
                   replace p393 := eq_true p393
                   replace q393 := eq_true q393
                   go_wp2_with (first | (go_at_call 31; (with_reducible refine (tillerref03_Same.calls k2 _ _ (rd_L2 (rd_L3 l0 x14_1) x33_2) _ _ (rd_L2 (rd_L3 l1 x14_1) x33_2) true _ ?side1 ?side2 ?side3 ?side4 A16.out).mono ?_); (case side1 => repeat (first | exact HR391_0.out | (with_reducible refine Kd.C_alloc ?_ _) | (with_reducible refine Kd.C_drewN ?_ _) | (with_reducible refine Kd.C_drew ?_))); (case side2 => exact HC391_0.out); (case side3 => repeat (first | exact HR393_0.out | (with_reducible refine Kd.C_alloc ?_ _) | (with_reducible refine Kd.C_drewN ?_ _) | (with_reducible refine Kd.C_drew ?_))); (case side4 => exact HC393_0.out); rintro e w' ⟨rfl, ⟨nd, rfl⟩⟩; (try first | exact ⟨rfl, _, World.drewN_drewN _ _ _⟩ | exact ⟨rfl, _, Eq.trans (World.drewN_drewN _ _ _) (congrArg (World.drewN _) (Nat.add_assoc _ _ _))⟩)))
                   repeat (go_quiet (first | (go_at_call 31; (with_reducible refine (tillerref03_Same.calls k2 _ _ (rd_L2 (rd_L3 l0 x14_1) x33_2) _ _ (rd_L2 (rd_L3 l1 x14_1) x33_2) true _ ?side1 ?side2 ?side3 ?side4 A16.out).mono ?_); (case side1 => repeat (first | exact HR391_0.out | (with_reducible refine Kd.C_alloc ?_ _) | (with_reducible refine Kd.C_drewN ?_ _) | (with_reducible refine Kd.C_drew ?_))); (case side2 => exact HC391_0.out); (case side3 => repeat (first | exact HR393_0.out | (with_reducible refine Kd.C_alloc ?_ _) | (with_reducible refine Kd.C_drewN ?_ _) | (with_reducible refine Kd.C_drew ?_))); (case side4 => exact HC393_0.out); rintro e w' ⟨rfl, ⟨nd, rfl⟩⟩; (try first | exact ⟨rfl, _, World.drewN_drewN _ _ _⟩ | exact ⟨rfl, _, Eq.trans (World.drewN_drewN _ _ _) (congrArg (World.drewN _) (Nat.add_assoc _ _ _))⟩))); try go_wp2_with (first | (go_at_call 31; (with_reducible refine (tillerref03_Same.calls k2 _ _ (rd_L2 (rd_L3 l0 x14_1) x33_2) _ _ (rd_L2 (rd_L3 l1 x14_1) x33_2) true _ ?side1 ?side2 ?side3 ?side4 A16.out).mono ?_); (case side1 => repeat (first | exact HR391_0.out | (with_reducible refine Kd.C_alloc ?_ _) | (with_reducible refine Kd.C_drewN ?_ _) | (with_reducible refine Kd.C_drew ?_))); (case side2 => exact HC391_0.out); (case side3 => repeat (first | exact HR393_0.out | (with_reducible refine Kd.C_alloc ?_ _) | (with_reducible refine Kd.C_drewN ?_ _) | (with_reducible refine Kd.C_drew ?_))); (case side4 => exact HC393_0.out); rintro e w' ⟨rfl, ⟨nd, rfl⟩⟩; (try first | exact ⟨rfl, _, World.drewN_drewN _ _ _⟩ | exact ⟨rfl, _, Eq.trans (World.drewN_drewN _ _ _) (congrArg (World.drewN _) (Nat.add_assoc _ _ _))⟩))))
                   go_roundg k2
                   case measure => have := HK1.out; have := HK2.out; omega
                   case rel => exact ⟨(wrap64 (x33_2 + 1)), rs, H', ⟨by have := HK1.out; have := HK2.out; omega⟩, by repeat (first | exact Drawn0.refl _ | apply Drawn0.step)⟩
                  ·replace c17 := Bool.eq_false_iff.mpr c17
                   subst c17
                   have H1 : (some false) = some r := by rw [if_neg (show ¬ (false = true) by decide)] at H; exact H
                   clear H
                   have H := H1
                   clear H1
                   obtain rfl := Option.some.inj H
                   have p390 : 0 ≤ (x14_1 : Int) := of_decide_eq_true asm
                   have q390 : x14_1 < (l0.length : Int) := of_decide_eq_true asm
                   obtain ⟨ad390, A390_0, c390_0, e390, hx390_0, hl390_0, hi390_0⟩ := at_L3 HR0.out x14_1 p390 q390
                   obtain rfl : ad387 = ad390 := (by injection e390)
                   have HR390_0 := Aside0.mk hi390_0
                   have HC390_0 := Aside0.mk hl390_0
                   clear hi390_0 hl390_0
                   replace p390 := eq_true p390
                   replace q390 := eq_true q390
                   have p391 : 0 ≤ (x33_2 : Int) := of_decide_eq_true asm
                   have q391 : x33_2 < ((rd_L3 l0 x14_1).length : Int) := of_decide_eq_true asm
                   obtain ⟨ad391, A391_0, c391_0, e391, hx391_0, hl391_0, hi391_0⟩ := at_L2 HR390_0.out x33_2 p391 q391
                   cases e391
                   have HR391_0 := Aside0.mk hi391_0
                   have HC391_0 := Aside0.mk hl391_0
                   clear hi391_0 hl391_0
                   replace p391 := eq_true p391
                   replace q391 := eq_true q391
                   have p392 : 0 ≤ (x14_1 : Int) := of_decide_eq_true asm
                   have q392 : x14_1 < (l1.length : Int) := of_decide_eq_true asm
                   obtain ⟨ad392, A392_0, c392_0, e392, hx392_0, hl392_0, hi392_0⟩ := at_L3 HR1.out x14_1 p392 q392
                   obtain rfl : ad388 = ad392 := (by injection e392)
                   have HR392_0 := Aside0.mk hi392_0
                   have HC392_0 := Aside0.mk hl392_0
                   clear hi392_0 hl392_0
                   replace p392 := eq_true p392
                   replace q392 := eq_true q392
                   have p393 : 0 ≤ (x33_2 : Int) := of_decide_eq_true asm
                   have q393 : x33_2 < ((rd_L3 l1 x14_1).length : Int) := of_decide_eq_true asm
                   obtain ⟨ad393, A393_0, c393_0, e393, hx393_0, hl393_0, hi393_0⟩ := at_L2 HR392_0.out x33_2 p393 q393
                   cases e393
                   have HR393_0 := Aside0.mk hi393_0
                   have HC393_0 := Aside0.mk hl393_0
                   clear hi393_0 hl393_0
                   replace p393 := eq_true p393
                   replace q393 := eq_true q393
                   go_wp2_with (first | (go_at_call 31; (with_reducible refine (tillerref03_Same.calls k2 _ _ (rd_L2 (rd_L3 l0 x14_1) x33_2) _ _ (rd_L2 (rd_L3 l1 x14_1) x33_2) false _ ?side1 ?side2 ?side3 ?side4 A16.out).mono ?_); (case side1 => repeat (first | exact HR391_0.out | (with_reducible refine Kd.C_alloc ?_ _) | (with_reducible refine Kd.C_drewN ?_ _) | (with_reducible refine Kd.C_drew ?_))); (case side2 => exact HC391_0.out); (case side3 => repeat (first | exact HR393_0.out | (with_reducible refine Kd.C_alloc ?_ _) | (with_reducible refine Kd.C_drewN ?_ _) | (with_reducible refine Kd.C_drew ?_))); (case side4 => exact HC393_0.out); rintro e w' ⟨rfl, ⟨nd, rfl⟩⟩; (try first | exact ⟨rfl, _, World.drewN_drewN _ _ _⟩ | exact ⟨rfl, _, Eq.trans (World.drewN_drewN _ _ _) (congrArg (World.drewN _) (Nat.add_assoc _ _ _))⟩)))
                   repeat (go_quiet (first | (go_at_call 31; (with_reducible refine (tillerref03_Same.calls k2 _ _ (rd_L2 (rd_L3 l0 x14_1) x33_2) _ _ (rd_L2 (rd_L3 l1 x14_1) x33_2) false _ ?side1 ?side2 ?side3 ?side4 A16.out).mono ?_); (case side1 => repeat (first | exact HR391_0.out | (with_reducible refine Kd.C_alloc ?_ _) | (with_reducible refine Kd.C_drewN ?_ _) | (with_reducible refine Kd.C_drew ?_))); (case side2 => exact HC391_0.out); (case side3 => repeat (first | exact HR393_0.out | (with_reducible refine Kd.C_alloc ?_ _) | (with_reducible refine Kd.C_drewN ?_ _) | (with_reducible refine Kd.C_drew ?_))); (case side4 => exact HC393_0.out); rintro e w' ⟨rfl, ⟨nd, rfl⟩⟩; (try first | exact ⟨rfl, _, World.drewN_drewN _ _ _⟩ | exact ⟨rfl, _, Eq.trans (World.drewN_drewN _ _ _) (congrArg (World.drewN _) (Nat.add_assoc _ _ _))⟩))); try go_wp2_with (first | (go_at_call 31; (with_reducible refine (tillerref03_Same.calls k2 _ _ (rd_L2 (rd_L3 l0 x14_1) x33_2) _ _ (rd_L2 (rd_L3 l1 x14_1) x33_2) false _ ?side1 ?side2 ?side3 ?side4 A16.out).mono ?_); (case side1 => repeat (first | exact HR391_0.out | (with_reducible refine Kd.C_alloc ?_ _) | (with_reducible refine Kd.C_drewN ?_ _) | (with_reducible refine Kd.C_drew ?_))); (case side2 => exact HC391_0.out); (case side3 => repeat (first | exact HR393_0.out | (with_reducible refine Kd.C_alloc ?_ _) | (with_reducible refine Kd.C_drewN ?_ _) | (with_reducible refine Kd.C_drew ?_))); (case side4 => exact HC393_0.out); rintro e w' ⟨rfl, ⟨nd, rfl⟩⟩; (try first | exact ⟨rfl, _, World.drewN_drewN _ _ _⟩ | exact ⟨rfl, _, Eq.trans (World.drewN_drewN _ _ _) (congrArg (World.drewN _) (Nat.add_assoc _ _ _))⟩))))
                   go_ret
                   exact ⟨by first | rfl | (simp; done) | (simp [*]; done), by repeat (first | exact Drawn0.refl _ | apply Drawn0.step)⟩
                 ·rw [if_neg c15] at H
                  exact absurd H (by simp)
                ·rw [if_neg c14] at H
                 exact absurd H (by simp)
               ·rw [if_neg c13] at H
                exact absurd H (by simp)
              ·rw [if_neg c12] at H
               exact absurd H (by simp)
             ·rw [if_neg c11] at H
              exact absurd H (by simp)
            ·rw [if_neg c10] at H
             exact absurd H (by simp)
           ·rw [if_neg c9] at H
            have c9b0 : decide (x33_2 < ((rd_L3 l0 x14_1).length : Int)) = false := decide_eq_false c9
            clear c9
            have H' := Aside0.mk H
            clear H
            go_wp2
            repeat (go_quiet (fail); try go_wp2)
            go_roundg k2
            case measure => have := HK1.out; have := HK2.out; omega
            case rel => exact ⟨(wrap64 (x14_1 + 1)), rs, H', ⟨by have := HK1.out; have := HK2.out; omega⟩, by repeat (first | exact Drawn0.refl _ | apply Drawn0.step)⟩
        ·rw [if_neg c8] at H
         have c8b0 : (((rd_L3 l0 x14_1).length : Int) == ((rd_L3 l1 x14_1).length : Int)) = false := beq_eq_false_iff_ne.mpr c8
         have c8b1 : (((rd_L3 l0 x14_1).length : Int) != ((rd_L3 l1 x14_1).length : Int)) = true := bne_iff_ne.mpr c8
         have c8b2 : ((rd_L3 l0 x14_1).length == (rd_L3 l1 x14_1).length) = false := by first | simpa using c8 | (simp at c8 ⊢; omega)
         obtain rfl := Option.some.inj H
         have p387 : 0 ≤ (x14_1 : Int) := of_decide_eq_true asm
         have q387 : x14_1 < (l0.length : Int) := of_decide_eq_true asm
         obtain ⟨ad387, A387_0, c387_0, e387, hx387_0, hl387_0, hi387_0⟩ := at_L3 HR0.out x14_1 p387 q387
         cases e387
         have HR387_0 := Aside0.mk hi387_0
         have HC387_0 := Aside0.mk hl387_0
         clear hi387_0 hl387_0
         replace p387 := eq_true p387
         replace q387 := eq_true q387
         have p388 : 0 ≤ (x14_1 : Int) := of_decide_eq_true asm
         have q388 : x14_1 < (l1.length : Int) := of_decide_eq_true asm
         obtain ⟨ad388, A388_0, c388_0, e388, hx388_0, hl388_0, hi388_0⟩ := at_L3 HR1.out x14_1 p388 q388
         cases e388
         have HR388_0 := Aside0.mk hi388_0
         have HC388_0 := Aside0.mk hl388_0
         clear hi388_0 hl388_0
         replace p388 := eq_true p388
         replace q388 := eq_true q388
         go_wp2
         repeat (go_quiet (fail); try go_wp2)
         go_ret
         exact ⟨by first | rfl | (simp; done) | (simp [*]; done), by repeat (first | exact Drawn0.refl _ | apply Drawn0.step)⟩
       ·rw [if_neg c7] at H
        exact absurd H (by simp)
      ·rw [if_neg c6] at H
       exact absurd H (by simp)
     ·rw [if_neg c5] at H
      exact absurd H (by simp)
    ·rw [if_neg c4] at H
     have c4b0 : decide (x14_1 < (l0.length : Int)) = false := decide_eq_false c4
     clear c4
     obtain rfl := Option.some.inj H
     go_wp2
     repeat (go_quiet (fail); try go_wp2)
     go_ret
     exact ⟨by first | rfl | (simp; done) | (simp [*]; done), by repeat (first | exact Drawn0.refl _ | apply Drawn0.step)⟩
 ·rw [if_neg c3] at H
  have c3b0 : ((l0.length : Int) == (l1.length : Int)) = false := beq_eq_false_iff_ne.mpr c3
  have c3b1 : ((l0.length : Int) != (l1.length : Int)) = true := bne_iff_ne.mpr c3
  have c3b2 : (l0.length == l1.length) = false := by first | simpa using c3 | (simp at c3 ⊢; omega)
  obtain rfl := Option.some.inj H
  go_enter Try.func45, Try.ntmps45
  go_wp2
  repeat (go_quiet (fail); try go_wp2)
  go_ret
  exact ⟨by first | rfl | (simp; done) | (simp [*]; done), by repeat (first | exact Drawn0.refl _ | apply Drawn0.step)⟩

end Go.Proofs.Ytepbebelbcbciaa.Q
