/- Functions of the program as plain Lean functions, each with a proof that the program's call comes to what it says; and rows of statements over them. No condition but those that the theorems name. Written by a program of this session (myprint.py, over the kit's print with patches of its own). -/
import Derived.Test.YtiooeclnjhncmaaQx0
import Derived.Test.YtiooeclnjhncmaaQx1
import Derived.Test.YtiooeclnjhncmaaQx2
import Derived.Test.YtiooeclnjhncmaaQx3
import Derived.Test.YtiooeclnjhncmaaQx4
namespace Go.Proofs.Ytiooeclnjhncmaa.Q
open Go.RowKit Go.Proofs.YtiooeclnjhncmaaW.PrintWords Go.Proofs.YtiooeclnjhncmaaW.PrintLast Go.Proofs.YtiooeclnjhncmaaW.PrintMore
attribute [local go_sem] max2_int min2_int max_two min_two max_three min_three max_four min_four   -- for this text's walks alone
set_option linter.unusedVariables false
set_option linter.unusedSimpArgs false

/-! ### tillerlaw05_SoftAlone: function 9 -/
mutual
def tillerlaw05_SoftAlone.j0 : Nat → Int → Int → List Int → List Int → Bool → Option (Bool)
  | 0, _, _, _, _, _ => none
  | k + 1, x0, x1, x2, x9, x60 => if x60 = true then (some false) else (tillerlaw05_SoftAlone.l0 k x0 x1 x9 x2 (x2.length : Int) 0)
def tillerlaw05_SoftAlone.l0 : Nat → Int → Int → List Int → List Int → Int → Int → Option (Bool)
  | 0, _, _, _, _, _, _ => none
  | k + 1, x0, x1, x9, x61, x62, x63 => if x63 < x62 then (if 0 ≤ x63 then (if x63 < (x61.length : Int) then (if x63 < (x9.length : Int) then (if (rd x9 x63) = (mx (rd x61 x63) (-2147483647)) then (tillerlaw05_SoftAlone.l0 k x0 x1 x9 x61 x62 (wrap64 (x63 + 1))) else (some false)) else (none)) else (none)) else (none)) else (if x1 < 1 then (tillerlaw05_SoftAlone.j2 k x0 x1 true) else (tillerlaw05_SoftAlone.j2 k x0 x1 (decide (x1 > 40))))
def tillerlaw05_SoftAlone.j2 : Nat → Int → Int → Bool → Option (Bool)
  | 0, _, _, _ => none
  | k + 1, x0, x1, x81 => if x81 = true then ((tillerlaw05_awake.f k).bind fun t193 => (some t193)) else (if 0 ≤ x1 then (if (x1 : Int).toNat ≤ 70368744177664 then (tillerlaw05_SoftAlone.l1 k x0 x1 (([] : List Int)) (List.replicate (x1 : Int).toNat 0) (([] : List Int)) 0) else (none)) else (none))
def tillerlaw05_SoftAlone.l1 : Nat → Int → Int → List Int → List Int → List Int → Int → Option (Bool)
  | 0, _, _, _, _, _, _ => none
  | k + 1, x0, x1, x13, x14, x15, x16 => if x16 < x1 then (if x13.length < 35184372088832 then (if x15.length < 35184372088832 then (tillerlaw05_SoftAlone.l1 k x0 x1 (x13 ++ [x0]) x14 (x15 ++ [x0]) (wrap64 (x16 + 1))) else (none)) else (none)) else ((soft_Weights.f k x13).bind fun bt209 => ((soft_Norm.f k x14 x15).bind fun bt213 => (if bt209.2 = 0 then (if bt213.2 = 0 then (if (bt209.1.length : Int) = x1 then (tillerlaw05_SoftAlone.j4 k x1 bt209.1 bt213.1 ((bt213.1.length : Int) != x1)) else (tillerlaw05_SoftAlone.j4 k x1 bt209.1 bt213.1 true)) else (tillerlaw05_SoftAlone.j4 k x1 bt209.1 bt213.1 true)) else (tillerlaw05_SoftAlone.j4 k x1 bt209.1 bt213.1 true))))
def tillerlaw05_SoftAlone.j4 : Nat → Int → List Int → List Int → Bool → Option (Bool)
  | 0, _, _, _, _ => none
  | k + 1, x1, x17, x19, x128 => if x128 = true then (some false) else (tillerlaw05_SoftAlone.l2 k x1 x17 x19 0)
def tillerlaw05_SoftAlone.l2 : Nat → Int → List Int → List Int → Int → Option (Bool)
  | 0, _, _, _, _ => none
  | k + 1, x1, x17, x19, x21 => if x21 < x1 then (if 0 ≤ x21 then (if x21 < (x17.length : Int) then (if x1 = 0 then (none) else (if (rd x17 x21) = (wrap32 (wrap64 (Int.tdiv (65536 : Int) x1))) then (if x21 < (x19.length : Int) then (if (rd x19 x21) = 0 then (tillerlaw05_SoftAlone.l2 k x1 x17 x19 (wrap64 (x21 + 1))) else (some false)) else (none)) else (some false))) else (none)) else (none)) else ((tillerlaw05_awake.f k).bind fun t219 => (some t219))
end
def tillerlaw05_SoftAlone.f (k : Nat) (a0 : Int) (a1 : Int) (l2 : List Int) : Option (Bool) := (tillerlaw03_Few_v.f l2 40).bind fun t170 => ((soft_Weights.f k (([a0] : List Int))).bind fun bt176 => ((soft_Mix.f k (([65536] : List Int)) (([t170] : List (List Int)))).bind fun bt186 => (if bt176.2 = 0 then (if (bt176.1.length : Int) = 1 then (if 0 < (bt176.1.length : Int) then (if (rd bt176.1 0) = 65536 then (if bt186.2 = 0 then (tillerlaw05_SoftAlone.j0 k a0 a1 t170 bt186.1 ((bt186.1.length : Int) != (t170.length : Int))) else (tillerlaw05_SoftAlone.j0 k a0 a1 t170 bt186.1 true)) else (tillerlaw05_SoftAlone.j0 k a0 a1 t170 bt186.1 true)) else (none)) else (tillerlaw05_SoftAlone.j0 k a0 a1 t170 bt186.1 true)) else (tillerlaw05_SoftAlone.j0 k a0 a1 t170 bt186.1 true))))
theorem tillerlaw05_SoftAlone.mono_l : ∀ k, (∀ y0 y1 y2 y3 y4, LeO (tillerlaw05_SoftAlone.j0 k y0 y1 y2 y3 y4) (tillerlaw05_SoftAlone.j0 (k + 1) y0 y1 y2 y3 y4)) ∧ (∀ y0 y1 y2 y3 y4 y5, LeO (tillerlaw05_SoftAlone.l0 k y0 y1 y2 y3 y4 y5) (tillerlaw05_SoftAlone.l0 (k + 1) y0 y1 y2 y3 y4 y5)) ∧ (∀ y0 y1 y2, LeO (tillerlaw05_SoftAlone.j2 k y0 y1 y2) (tillerlaw05_SoftAlone.j2 (k + 1) y0 y1 y2)) ∧ (∀ y0 y1 y2 y3 y4 y5, LeO (tillerlaw05_SoftAlone.l1 k y0 y1 y2 y3 y4 y5) (tillerlaw05_SoftAlone.l1 (k + 1) y0 y1 y2 y3 y4 y5)) ∧ (∀ y0 y1 y2 y3, LeO (tillerlaw05_SoftAlone.j4 k y0 y1 y2 y3) (tillerlaw05_SoftAlone.j4 (k + 1) y0 y1 y2 y3)) ∧ (∀ y0 y1 y2 y3, LeO (tillerlaw05_SoftAlone.l2 k y0 y1 y2 y3) (tillerlaw05_SoftAlone.l2 (k + 1) y0 y1 y2 y3))
  | 0 => ⟨fun _ _ _ _ _ r h => by simp [tillerlaw05_SoftAlone.j0] at h, fun _ _ _ _ _ _ r h => by simp [tillerlaw05_SoftAlone.l0] at h, fun _ _ _ r h => by simp [tillerlaw05_SoftAlone.j2] at h, fun _ _ _ _ _ _ r h => by simp [tillerlaw05_SoftAlone.l1] at h, fun _ _ _ _ r h => by simp [tillerlaw05_SoftAlone.j4] at h, fun _ _ _ _ r h => by simp [tillerlaw05_SoftAlone.l2] at h⟩
  | k + 1 => by
    obtain ⟨ih0, ih1, ih2, ih3, ih4, ih5⟩ := tillerlaw05_SoftAlone.mono_l k
    refine ⟨?_, ?_, ?_, ?_, ?_, ?_⟩
    · intro y0 y1 y2 y3 y4
      unfold tillerlaw05_SoftAlone.j0
      repeat' first
      | (with_reducible exact ih0 _ _ _ _ _)
      | (with_reducible exact ih1 _ _ _ _ _ _)
      | (with_reducible exact ih2 _ _ _)
      | (with_reducible exact ih3 _ _ _ _ _ _)
      | (with_reducible exact ih4 _ _ _ _)
      | (with_reducible exact ih5 _ _ _ _)
      | (with_reducible exact soft_Mix.mono _ _ _)
      | (with_reducible exact soft_Norm.mono _ _ _)
      | (with_reducible exact soft_Weights.mono _ _)
      | (with_reducible exact tillerlaw05_awake.mono _)
      | (with_reducible exact LeO.refl _)
      | (with_reducible exact LeO.none _)
      | (with_reducible refine LeO.ite ?_ ?_)
      | (with_reducible refine LeO.bind ?_ (fun _ => ?_))
      | exact ih0 _ _ _ _ _
      | exact ih1 _ _ _ _ _ _
      | exact ih2 _ _ _
      | exact ih3 _ _ _ _ _ _
      | exact ih4 _ _ _ _
      | exact ih5 _ _ _ _
      | exact soft_Mix.mono _ _ _
      | exact soft_Norm.mono _ _ _
      | exact soft_Weights.mono _ _
      | exact tillerlaw05_awake.mono _
      | exact LeO.none _
      | refine LeO.ite ?_ ?_
      | refine LeO.bind ?_ (fun _ => ?_)
    · intro y0 y1 y2 y3 y4 y5
      unfold tillerlaw05_SoftAlone.l0
      repeat' first
      | (with_reducible exact ih0 _ _ _ _ _)
      | (with_reducible exact ih1 _ _ _ _ _ _)
      | (with_reducible exact ih2 _ _ _)
      | (with_reducible exact ih3 _ _ _ _ _ _)
      | (with_reducible exact ih4 _ _ _ _)
      | (with_reducible exact ih5 _ _ _ _)
      | (with_reducible exact soft_Mix.mono _ _ _)
      | (with_reducible exact soft_Norm.mono _ _ _)
      | (with_reducible exact soft_Weights.mono _ _)
      | (with_reducible exact tillerlaw05_awake.mono _)
      | (with_reducible exact LeO.refl _)
      | (with_reducible exact LeO.none _)
      | (with_reducible refine LeO.ite ?_ ?_)
      | (with_reducible refine LeO.bind ?_ (fun _ => ?_))
      | exact ih0 _ _ _ _ _
      | exact ih1 _ _ _ _ _ _
      | exact ih2 _ _ _
      | exact ih3 _ _ _ _ _ _
      | exact ih4 _ _ _ _
      | exact ih5 _ _ _ _
      | exact soft_Mix.mono _ _ _
      | exact soft_Norm.mono _ _ _
      | exact soft_Weights.mono _ _
      | exact tillerlaw05_awake.mono _
      | exact LeO.none _
      | refine LeO.ite ?_ ?_
      | refine LeO.bind ?_ (fun _ => ?_)
    · intro y0 y1 y2
      unfold tillerlaw05_SoftAlone.j2
      repeat' first
      | (with_reducible exact ih0 _ _ _ _ _)
      | (with_reducible exact ih1 _ _ _ _ _ _)
      | (with_reducible exact ih2 _ _ _)
      | (with_reducible exact ih3 _ _ _ _ _ _)
      | (with_reducible exact ih4 _ _ _ _)
      | (with_reducible exact ih5 _ _ _ _)
      | (with_reducible exact soft_Mix.mono _ _ _)
      | (with_reducible exact soft_Norm.mono _ _ _)
      | (with_reducible exact soft_Weights.mono _ _)
      | (with_reducible exact tillerlaw05_awake.mono _)
      | (with_reducible exact LeO.refl _)
      | (with_reducible exact LeO.none _)
      | (with_reducible refine LeO.ite ?_ ?_)
      | (with_reducible refine LeO.bind ?_ (fun _ => ?_))
      | exact ih0 _ _ _ _ _
      | exact ih1 _ _ _ _ _ _
      | exact ih2 _ _ _
      | exact ih3 _ _ _ _ _ _
      | exact ih4 _ _ _ _
      | exact ih5 _ _ _ _
      | exact soft_Mix.mono _ _ _
      | exact soft_Norm.mono _ _ _
      | exact soft_Weights.mono _ _
      | exact tillerlaw05_awake.mono _
      | exact LeO.none _
      | refine LeO.ite ?_ ?_
      | refine LeO.bind ?_ (fun _ => ?_)
    · intro y0 y1 y2 y3 y4 y5
      unfold tillerlaw05_SoftAlone.l1
      repeat' first
      | (with_reducible exact ih0 _ _ _ _ _)
      | (with_reducible exact ih1 _ _ _ _ _ _)
      | (with_reducible exact ih2 _ _ _)
      | (with_reducible exact ih3 _ _ _ _ _ _)
      | (with_reducible exact ih4 _ _ _ _)
      | (with_reducible exact ih5 _ _ _ _)
      | (with_reducible exact soft_Mix.mono _ _ _)
      | (with_reducible exact soft_Norm.mono _ _ _)
      | (with_reducible exact soft_Weights.mono _ _)
      | (with_reducible exact tillerlaw05_awake.mono _)
      | (with_reducible exact LeO.refl _)
      | (with_reducible exact LeO.none _)
      | (with_reducible refine LeO.ite ?_ ?_)
      | (with_reducible refine LeO.bind ?_ (fun _ => ?_))
      | exact ih0 _ _ _ _ _
      | exact ih1 _ _ _ _ _ _
      | exact ih2 _ _ _
      | exact ih3 _ _ _ _ _ _
      | exact ih4 _ _ _ _
      | exact ih5 _ _ _ _
      | exact soft_Mix.mono _ _ _
      | exact soft_Norm.mono _ _ _
      | exact soft_Weights.mono _ _
      | exact tillerlaw05_awake.mono _
      | exact LeO.none _
      | refine LeO.ite ?_ ?_
      | refine LeO.bind ?_ (fun _ => ?_)
    · intro y0 y1 y2 y3
      unfold tillerlaw05_SoftAlone.j4
      repeat' first
      | (with_reducible exact ih0 _ _ _ _ _)
      | (with_reducible exact ih1 _ _ _ _ _ _)
      | (with_reducible exact ih2 _ _ _)
      | (with_reducible exact ih3 _ _ _ _ _ _)
      | (with_reducible exact ih4 _ _ _ _)
      | (with_reducible exact ih5 _ _ _ _)
      | (with_reducible exact soft_Mix.mono _ _ _)
      | (with_reducible exact soft_Norm.mono _ _ _)
      | (with_reducible exact soft_Weights.mono _ _)
      | (with_reducible exact tillerlaw05_awake.mono _)
      | (with_reducible exact LeO.refl _)
      | (with_reducible exact LeO.none _)
      | (with_reducible refine LeO.ite ?_ ?_)
      | (with_reducible refine LeO.bind ?_ (fun _ => ?_))
      | exact ih0 _ _ _ _ _
      | exact ih1 _ _ _ _ _ _
      | exact ih2 _ _ _
      | exact ih3 _ _ _ _ _ _
      | exact ih4 _ _ _ _
      | exact ih5 _ _ _ _
      | exact soft_Mix.mono _ _ _
      | exact soft_Norm.mono _ _ _
      | exact soft_Weights.mono _ _
      | exact tillerlaw05_awake.mono _
      | exact LeO.none _
      | refine LeO.ite ?_ ?_
      | refine LeO.bind ?_ (fun _ => ?_)
    · intro y0 y1 y2 y3
      unfold tillerlaw05_SoftAlone.l2
      repeat' first
      | (with_reducible exact ih0 _ _ _ _ _)
      | (with_reducible exact ih1 _ _ _ _ _ _)
      | (with_reducible exact ih2 _ _ _)
      | (with_reducible exact ih3 _ _ _ _ _ _)
      | (with_reducible exact ih4 _ _ _ _)
      | (with_reducible exact ih5 _ _ _ _)
      | (with_reducible exact soft_Mix.mono _ _ _)
      | (with_reducible exact soft_Norm.mono _ _ _)
      | (with_reducible exact soft_Weights.mono _ _)
      | (with_reducible exact tillerlaw05_awake.mono _)
      | (with_reducible exact LeO.refl _)
      | (with_reducible exact LeO.none _)
      | (with_reducible refine LeO.ite ?_ ?_)
      | (with_reducible refine LeO.bind ?_ (fun _ => ?_))
      | exact ih0 _ _ _ _ _
      | exact ih1 _ _ _ _ _ _
      | exact ih2 _ _ _
      | exact ih3 _ _ _ _ _ _
      | exact ih4 _ _ _ _
      | exact ih5 _ _ _ _
      | exact soft_Mix.mono _ _ _
      | exact soft_Norm.mono _ _ _
      | exact soft_Weights.mono _ _
      | exact tillerlaw05_awake.mono _
      | exact LeO.none _
      | refine LeO.ite ?_ ?_
      | refine LeO.bind ?_ (fun _ => ?_)
theorem tillerlaw05_SoftAlone.mono : ∀ a0 a1 a2 k, LeO (tillerlaw05_SoftAlone.f k a0 a1 a2) (tillerlaw05_SoftAlone.f (k + 1) a0 a1 a2) := by
  intro a0 a1 a2 k
  obtain ⟨ih0, ih1, ih2, ih3, ih4, ih5⟩ := tillerlaw05_SoftAlone.mono_l k
  unfold tillerlaw05_SoftAlone.f
  repeat' first
      | (with_reducible exact ih0 _ _ _ _ _)
      | (with_reducible exact ih1 _ _ _ _ _ _)
      | (with_reducible exact ih2 _ _ _)
      | (with_reducible exact ih3 _ _ _ _ _ _)
      | (with_reducible exact ih4 _ _ _ _)
      | (with_reducible exact ih5 _ _ _ _)
      | (with_reducible exact soft_Mix.mono _ _ _)
      | (with_reducible exact soft_Norm.mono _ _ _)
      | (with_reducible exact soft_Weights.mono _ _)
      | (with_reducible exact tillerlaw05_awake.mono _)
      | (with_reducible exact LeO.refl _)
      | (with_reducible exact LeO.none _)
      | (with_reducible refine LeO.ite ?_ ?_)
      | (with_reducible refine LeO.bind ?_ (fun _ => ?_))
      | exact ih0 _ _ _ _ _
      | exact ih1 _ _ _ _ _ _
      | exact ih2 _ _ _
      | exact ih3 _ _ _ _ _ _
      | exact ih4 _ _ _ _
      | exact ih5 _ _ _ _
      | exact soft_Mix.mono _ _ _
      | exact soft_Norm.mono _ _ _
      | exact soft_Weights.mono _ _
      | exact tillerlaw05_awake.mono _
      | exact LeO.none _
      | refine LeO.ite ?_ ?_
      | refine LeO.bind ?_ (fun _ => ?_)
def tillerlaw05_SoftAlone.T27 : Bool × List (List Nat × List Nat) := (true, [([], []), ([], []), ([0, 1], [0, 1]), ([2], [2]), ([], []), ([4], [4]), ([5], [5]), ([3, 6], [3, 6]), ([7], [7]), ([8], [8]), ([8], [8]), ([9, 10, 8], [8, 9, 10]), ([11, 8], [8, 11]), ([12, 8], [8, 12]), ([8, 13], [8, 13])])
def tillerlaw05_SoftAlone.B27 : List Nat := [0, 0, 3, 7, 0, 16, 48, 127, 255, 511, 511, 2047, 4095, 8191, 16383]
theorem tillerlaw05_SoftAlone.tab27 : rtab .any (opsOf Try.f9 27) = tillerlaw05_SoftAlone.T27 := by kernel_rfl
theorem tillerlaw05_SoftAlone.bits27 : waitsOk tillerlaw05_SoftAlone.T27.2 tillerlaw05_SoftAlone.B27 = true := by kernel_rfl
set_option maxHeartbeats 8000000 in
set_option maxRecDepth 100000 in
theorem tillerlaw05_SoftAlone.calls (k : Nat) (a0 : Int) (a1 : Int) (A2 : Option Addr) (c2 : Nat) (l2 : List Int) (r : Bool) (w : World) (hr2 : Kd.C (Kd.int .i32) w A2 l2.length l2) (hc2 : l2.length ≤ c2) (h : tillerlaw05_SoftAlone.f k a0 a1 l2 = some r) :
    Calls Try.prog 9 #[.int .i32 a0, .int .i64 a1, .slice A2 l2.length c2] w fun e w' => e = .returned (.bool r) ∧ Below w.heap.size w w' := by
  have HR2 := Aside0.mk hr2
  have HC2 := Aside0.mk hc2
  clear hr2 hc2
  have HB := Aside0.mk (Below.refl w.heap.size w)
  have H : ((tillerlaw03_Few_v.f l2 40).bind fun t170 => ((soft_Weights.f k (([a0] : List Int))).bind fun bt176 => ((soft_Mix.f k (([65536] : List Int)) (([t170] : List (List Int)))).bind fun bt186 => (if bt176.2 = 0 then (if (bt176.1.length : Int) = 1 then (if 0 < (bt176.1.length : Int) then (if (rd bt176.1 0) = 65536 then (if bt186.2 = 0 then (tillerlaw05_SoftAlone.j0 k a0 a1 t170 bt186.1 ((bt186.1.length : Int) != (t170.length : Int))) else (tillerlaw05_SoftAlone.j0 k a0 a1 t170 bt186.1 true)) else (tillerlaw05_SoftAlone.j0 k a0 a1 t170 bt186.1 true)) else (none)) else (tillerlaw05_SoftAlone.j0 k a0 a1 t170 bt186.1 true)) else (tillerlaw05_SoftAlone.j0 k a0 a1 t170 bt186.1 true))))) = some r := h
  clear h
  replace H := Option.bind_eq_some_iff.mp H
  obtain ⟨t170, A40, H⟩ := H
  replace H : ((soft_Weights.f k (([a0] : List Int))).bind fun bt176 => ((soft_Mix.f k (([65536] : List Int)) (([t170] : List (List Int)))).bind fun bt186 => (if bt176.2 = 0 then (if (bt176.1.length : Int) = 1 then (if 0 < (bt176.1.length : Int) then (if (rd bt176.1 0) = 65536 then (if bt186.2 = 0 then (tillerlaw05_SoftAlone.j0 k a0 a1 t170 bt186.1 ((bt186.1.length : Int) != (t170.length : Int))) else (tillerlaw05_SoftAlone.j0 k a0 a1 t170 bt186.1 true)) else (tillerlaw05_SoftAlone.j0 k a0 a1 t170 bt186.1 true)) else (none)) else (tillerlaw05_SoftAlone.j0 k a0 a1 t170 bt186.1 true)) else (tillerlaw05_SoftAlone.j0 k a0 a1 t170 bt186.1 true)))) = some r := H
  have A4 := Aside0.mk A40
  clear A40
  obtain ⟨y173, hy173⟩ : ∃ y_ : List Int, y_ = (([a0] : List Int)) := ⟨_, rfl⟩
  replace H : ((soft_Weights.f k y173).bind fun bt176 => ((soft_Mix.f k (([65536] : List Int)) (([t170] : List (List Int)))).bind fun bt186 => (if bt176.2 = 0 then (if (bt176.1.length : Int) = 1 then (if 0 < (bt176.1.length : Int) then (if (rd bt176.1 0) = 65536 then (if bt186.2 = 0 then (tillerlaw05_SoftAlone.j0 k a0 a1 t170 bt186.1 ((bt186.1.length : Int) != (t170.length : Int))) else (tillerlaw05_SoftAlone.j0 k a0 a1 t170 bt186.1 true)) else (tillerlaw05_SoftAlone.j0 k a0 a1 t170 bt186.1 true)) else (none)) else (tillerlaw05_SoftAlone.j0 k a0 a1 t170 bt186.1 true)) else (tillerlaw05_SoftAlone.j0 k a0 a1 t170 bt186.1 true)))) = some r := by first | (rw [hy173]; with_reducible exact H) | (have H2_ := (Option.bind_some _ _).symm.trans H; rw [hy173]; with_reducible exact H2_) | (have H2_ := (Option.bind_some _ _).symm.trans H; with_reducible exact H2_) | with_reducible exact H | (rw [hy173]; exact H) | exact H
  have Ny173 := Aside0.mk hy173
  clear hy173
  replace H := Option.bind_eq_some_iff.mp H
  obtain ⟨⟨t176, t177⟩, A50, H⟩ := H
  replace H : ((soft_Mix.f k (([65536] : List Int)) (([t170] : List (List Int)))).bind fun bt186 => (if t177 = 0 then (if (t176.length : Int) = 1 then (if 0 < (t176.length : Int) then (if (rd t176 0) = 65536 then (if bt186.2 = 0 then (tillerlaw05_SoftAlone.j0 k a0 a1 t170 bt186.1 ((bt186.1.length : Int) != (t170.length : Int))) else (tillerlaw05_SoftAlone.j0 k a0 a1 t170 bt186.1 true)) else (tillerlaw05_SoftAlone.j0 k a0 a1 t170 bt186.1 true)) else (none)) else (tillerlaw05_SoftAlone.j0 k a0 a1 t170 bt186.1 true)) else (tillerlaw05_SoftAlone.j0 k a0 a1 t170 bt186.1 true))) = some r := H
  have A5 := Aside0.mk A50
  clear A50
  obtain ⟨y180, hy180⟩ : ∃ y_ : List Int, y_ = (([65536] : List Int)) := ⟨_, rfl⟩
  replace H : ((soft_Mix.f k y180 (([t170] : List (List Int)))).bind fun bt186 => (if t177 = 0 then (if (t176.length : Int) = 1 then (if 0 < (t176.length : Int) then (if (rd t176 0) = 65536 then (if bt186.2 = 0 then (tillerlaw05_SoftAlone.j0 k a0 a1 t170 bt186.1 ((bt186.1.length : Int) != (t170.length : Int))) else (tillerlaw05_SoftAlone.j0 k a0 a1 t170 bt186.1 true)) else (tillerlaw05_SoftAlone.j0 k a0 a1 t170 bt186.1 true)) else (none)) else (tillerlaw05_SoftAlone.j0 k a0 a1 t170 bt186.1 true)) else (tillerlaw05_SoftAlone.j0 k a0 a1 t170 bt186.1 true))) = some r := by first | (rw [hy180]; with_reducible exact H) | (have H2_ := (Option.bind_some _ _).symm.trans H; rw [hy180]; with_reducible exact H2_) | (have H2_ := (Option.bind_some _ _).symm.trans H; with_reducible exact H2_) | with_reducible exact H | (rw [hy180]; exact H) | exact H
  have Ny180 := Aside0.mk hy180
  clear hy180
  obtain ⟨y183, hy183⟩ : ∃ y_ : List (List Int), y_ = (([t170] : List (List Int))) := ⟨_, rfl⟩
  replace H : ((soft_Mix.f k y180 y183).bind fun bt186 => (if t177 = 0 then (if (t176.length : Int) = 1 then (if 0 < (t176.length : Int) then (if (rd t176 0) = 65536 then (if bt186.2 = 0 then (tillerlaw05_SoftAlone.j0 k a0 a1 t170 bt186.1 ((bt186.1.length : Int) != (t170.length : Int))) else (tillerlaw05_SoftAlone.j0 k a0 a1 t170 bt186.1 true)) else (tillerlaw05_SoftAlone.j0 k a0 a1 t170 bt186.1 true)) else (none)) else (tillerlaw05_SoftAlone.j0 k a0 a1 t170 bt186.1 true)) else (tillerlaw05_SoftAlone.j0 k a0 a1 t170 bt186.1 true))) = some r := by first | (rw [hy183]; with_reducible exact H) | (have H2_ := (Option.bind_some _ _).symm.trans H; rw [hy183]; with_reducible exact H2_) | (have H2_ := (Option.bind_some _ _).symm.trans H; with_reducible exact H2_) | with_reducible exact H | (rw [hy183]; exact H) | exact H
  have Ny183 := Aside0.mk hy183
  clear hy183
  replace H := Option.bind_eq_some_iff.mp H
  obtain ⟨⟨t186, t187⟩, A60, H⟩ := H
  replace H : (if t177 = 0 then (if (t176.length : Int) = 1 then (if 0 < (t176.length : Int) then (if (rd t176 0) = 65536 then (if t187 = 0 then (tillerlaw05_SoftAlone.j0 k a0 a1 t170 t186 ((t186.length : Int) != (t170.length : Int))) else (tillerlaw05_SoftAlone.j0 k a0 a1 t170 t186 true)) else (tillerlaw05_SoftAlone.j0 k a0 a1 t170 t186 true)) else (none)) else (tillerlaw05_SoftAlone.j0 k a0 a1 t170 t186 true)) else (tillerlaw05_SoftAlone.j0 k a0 a1 t170 t186 true)) = some r := H
  have A6 := Aside0.mk A60
  clear A60
  have HC7 := Aside0.mk H
  clear H
  go_enter Try.func9, Try.ntmps9
  go_upto_region 4 with (first | ((with_reducible refine gate_callee (f := 10) rfl ?_); refine goesL_ (some 23) rfl rfl Try.func10 (by kernel_rfl) rfl #[.slice A2 l2.length c2, .int .i64 40] rfl (by (try simp only [List.map_toArray, List.map_cons, List.map_nil]); first | done | rfl | (simp only [List.length_drop, List.length_take]; rfl)) ?_; (with_reducible refine (tillerlaw03_Few_v.calls _ _ l2 40 t170 _ ?side1 ?side2 A4.out).mono ?_); (case side1 => repeat (first | exact HR2.out | (with_reducible refine Kd.C_alloc ?_ _) | (with_reducible refine Kd.C_drewN ?_ _) | (with_reducible refine Kd.C_drew ?_))); (case side2 => exact HC2.out); rintro e w8 ⟨v171, rfl, ho0, hb⟩; refine ⟨_, rfl, ?_⟩; have n0_ := Aside0.mk (Kd.V_lower (Kd.V_mono (ok' := fun k_ => True) ho0 (fun k_ hk_ => trivial)) (below_size (by repeat (first | (with_reducible first | exact HB.out | apply below_alloc | apply pw_below_drewN | apply below_drew1) | exact HB.out)))); have n1_ := Aside0.mk (below_step (by repeat (first | (with_reducible first | exact HB.out | apply below_alloc | apply pw_below_drewN | apply below_drew1) | exact HB.out)) hb); clear HB; have HO172 := n0_; have HB := n1_; clear n0_ n1_; (try clear hb); (try clear hb2); (try clear hk); (try clear hi); (try clear ho0)) | ((with_reducible refine gate_dst (N := 26) rfl ?_); (try (refine gate_guard (by rfl) ?_; dsimp only)); refine Kd.R_lit (Kd.int .i32) _ 32 ?hg (N := 26) ?hd (xs := ([a0] : List Int)) (inner := [.int .i32 a0]) (ok := fun _ => True) (okp := fun _ => True) ?hr ?hp (fun _ hk => hk) trivial (Below.refl _ _) (Nat.le_refl _) (by simp) ?_; (case hd => rfl); (case hg => rfl); (case hr => first | (go_simp; done) | (go_simp; rfl)); (case hp => exact (Reps.one (show Kd.M (Kd.int .i32) _ _ _ a0 [.int .i32 a0] from rfl) (Reps.none _ _))); intro v174 w9 ho10 hb hg_ hnew_; clear hg_ hnew_; (first | rw [← Ny173.out] at ho10 | (simp only [Int.reduceToNat] at ho10; rw [← Ny173.out] at ho10)); have n0_ := Aside0.mk (Kd.V_elder' (by (with_reducible repeat (first | apply Kd.V_alloc | apply Kd.V_drewN | apply Kd.V_drew)); exact HO172.out) (Kd.R_base ho10) hb); have n1_ := Aside0.mk (Kd.R_lower ho10 (below_size (by repeat (first | (with_reducible first | exact HB.out | apply below_alloc | apply pw_below_drewN | apply below_drew1) | exact HB.out)))); have n2_ := Aside0.mk (below_step (by repeat (first | (with_reducible first | exact HB.out | apply below_alloc | apply pw_below_drewN | apply below_drew1) | exact HB.out)) hb); clear HO172; clear HB; have HO172 := n0_; have HO175 := n1_; have HB := n2_; clear n0_ n1_ n2_; clear hb ho10; obtain ⟨Ao11, co11, eo11⟩ := Kd.R_slice HO175.out; subst eo11) | ((with_reducible refine gate_callee (f := 11) rfl ?_); refine goesL_ (some 27) rfl rfl Try.func11 (by kernel_rfl) rfl #[.slice Ao11 y173.length co11] rfl (by (try simp only [List.map_toArray, List.map_cons, List.map_nil]); first | done | rfl | (simp only [List.length_drop, List.length_take]; rfl)) ?_; (with_reducible refine (soft_Weights.calls k _ _ y173 t176 t177 _ ?side1 ?side2 A5.out).mono ?_); (case side1 => repeat (first | exact (Kd.R_reads' HO175.out).2.2 | (with_reducible refine Kd.C_alloc ?_ _) | (with_reducible refine Kd.C_drewN ?_ _) | (with_reducible refine Kd.C_drew ?_))); (case side2 => exact (Kd.R_reads' HO175.out).2.1); rintro e w12 ⟨v178, rfl, ho0, hb⟩; refine ⟨_, rfl, ?_⟩; have n0_ := Aside0.mk (Kd.V_elder' (by (with_reducible repeat (first | apply Kd.V_alloc | apply Kd.V_drewN | apply Kd.V_drew)); exact HO172.out) (Kd.R_base ho0) hb); have n1_ := Aside0.mk (Kd.R_elder' (by (with_reducible repeat (first | apply Kd.R_alloc | apply Kd.R_drewN | apply Kd.R_drew)); exact HO175.out) (Kd.R_base ho0) hb); have n2_ := Aside0.mk (Kd.R_lower (Kd.R_new' ho0 (Kd.R_lt (by (with_reducible repeat (first | apply Kd.R_alloc | apply Kd.R_drewN | apply Kd.R_drew)); exact HO175.out))) (below_size (by repeat (first | (with_reducible first | exact HB.out | apply below_alloc | apply pw_below_drewN | apply below_drew1) | exact HB.out)))); have n3_ := Aside0.mk (below_step (by repeat (first | (with_reducible first | exact HB.out | apply below_alloc | apply pw_below_drewN | apply below_drew1) | exact HB.out)) hb); clear HO172; clear HO175; clear HB; have HO172 := n0_; have HO175 := n1_; have HO179 := n2_; have HB := n3_; clear n0_ n1_ n2_ n3_; (try clear hb); (try clear hb2); (try clear hk); (try clear hi); (try clear ho0)) | ((with_reducible refine gate_dst (N := 31) rfl ?_); (try (refine gate_guard (by rfl) ?_; dsimp only)); refine Kd.R_lit (Kd.int .i32) _ 32 ?hg (N := 31) ?hd (xs := ([65536] : List Int)) (inner := [.int .i32 65536]) (ok := fun _ => True) (okp := fun _ => True) ?hr ?hp (fun _ hk => hk) trivial (Below.refl _ _) (Nat.le_refl _) (by simp) ?_; (case hd => rfl); (case hg => rfl); (case hr => first | (go_simp; done) | (go_simp; rfl)); (case hp => exact (Reps.one (show Kd.M (Kd.int .i32) _ _ _ 65536 [.int .i32 65536] from rfl) (Reps.none _ _))); intro v181 w13 ho14 hb hg_ hnew_; clear hg_ hnew_; (first | rw [← Ny180.out] at ho14 | (simp only [Int.reduceToNat] at ho14; rw [← Ny180.out] at ho14)); have n0_ := Aside0.mk (Kd.V_elder' (by (with_reducible repeat (first | apply Kd.V_alloc | apply Kd.V_drewN | apply Kd.V_drew)); exact HO172.out) (Kd.R_base ho14) hb); have n1_ := Aside0.mk (Kd.R_elder' (by (with_reducible repeat (first | apply Kd.R_alloc | apply Kd.R_drewN | apply Kd.R_drew)); exact HO175.out) (Kd.R_base ho14) hb); have n2_ := Aside0.mk (Kd.R_elder' (by (with_reducible repeat (first | apply Kd.R_alloc | apply Kd.R_drewN | apply Kd.R_drew)); exact HO179.out) (Kd.R_base ho14) hb); have n3_ := Aside0.mk (Kd.R_lower (Kd.R_new' (Kd.R_new' ho14 (Kd.R_lt (by (with_reducible repeat (first | apply Kd.R_alloc | apply Kd.R_drewN | apply Kd.R_drew)); exact HO175.out))) (Kd.R_lt (by (with_reducible repeat (first | apply Kd.R_alloc | apply Kd.R_drewN | apply Kd.R_drew)); exact HO179.out))) (below_size (by repeat (first | (with_reducible first | exact HB.out | apply below_alloc | apply pw_below_drewN | apply below_drew1) | exact HB.out)))); have n4_ := Aside0.mk (below_step (by repeat (first | (with_reducible first | exact HB.out | apply below_alloc | apply pw_below_drewN | apply below_drew1) | exact HB.out)) hb); clear HO172; clear HO175; clear HO179; clear HB; have HO172 := n0_; have HO175 := n1_; have HO179 := n2_; have HO182 := n3_; have HB := n4_; clear n0_ n1_ n2_ n3_ n4_; clear hb ho14; obtain ⟨Ao15, co15, eo15⟩ := Kd.V_slice HO172.out; subst eo15) | ((with_reducible refine gate_dst (N := 33) rfl ?_); (try (refine gate_guard (by rfl) ?_; dsimp only)); refine Kd.N_lit (Kd.slice 32 (Kd.int .i32)) _ 22 ?hg (N' := 33) ?hd (xs := ([t170] : List (List Int))) (inner := [.slice Ao15 t170.length co15]) (ok := (fun k_ => some k_ ≠ (.slice Ao11 y173.length co11 : Value).ownBlock ∧ some k_ ≠ (v178 : Value).ownBlock ∧ some k_ ≠ (v181 : Value).ownBlock)) (okp := (fun k_ => some k_ ≠ (.slice Ao11 y173.length co11 : Value).ownBlock ∧ some k_ ≠ (v178 : Value).ownBlock ∧ some k_ ≠ (v181 : Value).ownBlock)) ?hr ?hp (fun _ hk => hk) ((show ∀ k_, w13.heap.size ≤ k_ → (fun k_ => some k_ ≠ (.slice Ao11 y173.length co11 : Value).ownBlock ∧ some k_ ≠ (v178 : Value).ownBlock ∧ some k_ ≠ (v181 : Value).ownBlock) k_ from fun k_ hk => ⟨Kd.fresh' (Kd.R_lt (by (with_reducible repeat (first | apply Kd.R_alloc | apply Kd.R_drewN | apply Kd.R_drew)); exact HO175.out)) k_ hk, Kd.fresh' (Kd.R_lt (by (with_reducible repeat (first | apply Kd.R_alloc | apply Kd.R_drewN | apply Kd.R_drew)); exact HO179.out)) k_ hk, Kd.fresh' (Kd.R_lt (by (with_reducible repeat (first | apply Kd.R_alloc | apply Kd.R_drewN | apply Kd.R_drew)); exact HO182.out)) k_ hk⟩) _ (Nat.le_refl _)) (Below.refl _ _) (Nat.le_refl _) (by simp) ?_; (case hd => rfl); (case hg => rfl); (case hr => first | (go_simp; done) | (go_simp; rfl)); (case hp => exact (Reps.one (show Kd.FK (Kd.slice 32 (Kd.int .i32)) _ _ t170 [.slice Ao15 t170.length co15] from (Kd.FK_slice_mk (Kd.V_reads' (Kd.V_mono (ok' := (fun k_ => some k_ ≠ (.slice Ao11 y173.length co11 : Value).ownBlock ∧ some k_ ≠ (v178 : Value).ownBlock ∧ some k_ ≠ (v181 : Value).ownBlock)) (HO172.out) (fun k_ hk => ⟨hk.1.1.2, ⟨hk.1.2, hk.2⟩⟩))).2.1 (Kd.V_F (Kd.V_mono (ok' := (fun k_ => some k_ ≠ (.slice Ao11 y173.length co11 : Value).ownBlock ∧ some k_ ≠ (v178 : Value).ownBlock ∧ some k_ ≠ (v181 : Value).ownBlock)) (HO172.out) (fun k_ hk => ⟨hk.1.1.2, ⟨hk.1.2, hk.2⟩⟩))))) (Reps.none _ _))); intro v184 w16 ho17 hb hg_ hnew_; clear hg_ hnew_; (first | rw [← Ny183.out] at ho17 | (simp only [Int.reduceToNat] at ho17; rw [← Ny183.out] at ho17)); have n0_ := Aside0.mk (Kd.V_elder' (by (with_reducible repeat (first | apply Kd.V_alloc | apply Kd.V_drewN | apply Kd.V_drew)); exact HO172.out) (Kd.N_base ho17) hb); have n1_ := Aside0.mk (Kd.R_below (by (with_reducible repeat (first | apply Kd.R_alloc | apply Kd.R_drewN | apply Kd.R_drew)); exact HO175.out) hb); have n2_ := Aside0.mk (Kd.R_below (by (with_reducible repeat (first | apply Kd.R_alloc | apply Kd.R_drewN | apply Kd.R_drew)); exact HO179.out) hb); have n3_ := Aside0.mk (Kd.R_below (by (with_reducible repeat (first | apply Kd.R_alloc | apply Kd.R_drewN | apply Kd.R_drew)); exact HO182.out) hb); have n4_ := Aside0.mk (Kd.N_lower ho17 (below_size (by repeat (first | (with_reducible first | exact HB.out | apply below_alloc | apply pw_below_drewN | apply below_drew1) | exact HB.out)))); have n5_ := Aside0.mk (below_step (by repeat (first | (with_reducible first | exact HB.out | apply below_alloc | apply pw_below_drewN | apply below_drew1) | exact HB.out)) hb); clear HO172; clear HO175; clear HO179; clear HO182; clear HB; have HO172 := n0_; have HO175 := n1_; have HO179 := n2_; have HO182 := n3_; have HO185 := n4_; have HB := n5_; clear n0_ n1_ n2_ n3_ n4_ n5_; clear hb ho17; obtain ⟨Ao18, co18, eo18⟩ := Kd.R_slice HO182.out; subst eo18; obtain ⟨Ao19, co19, eo19⟩ := Kd.N_slice HO185.out; subst eo19) | ((with_reducible refine gate_callee (f := 17) rfl ?_); refine goesL_ (some 34) rfl rfl Try.func17 (by kernel_rfl) rfl #[.slice Ao18 y180.length co18, .slice Ao19 y183.length co19] rfl (by (try simp only [List.map_toArray, List.map_cons, List.map_nil]); first | done | rfl | (simp only [List.length_drop, List.length_take]; rfl)) ?_; (with_reducible refine (soft_Mix.calls k _ _ y180 _ _ y183 t186 t187 _ ?side1 ?side2 ?side3 ?side4 A6.out).mono ?_); (case side1 => repeat (first | exact (Kd.R_reads' HO182.out).2.2 | (with_reducible refine Kd.C_alloc ?_ _) | (with_reducible refine Kd.C_drewN ?_ _) | (with_reducible refine Kd.C_drew ?_))); (case side2 => exact (Kd.R_reads' HO182.out).2.1); (case side3 => repeat (first | exact (Kd.N_reads' HO185.out).2.2 | (with_reducible refine Kd.C_alloc ?_ _) | (with_reducible refine Kd.C_drewN ?_ _) | (with_reducible refine Kd.C_drew ?_))); (case side4 => exact (Kd.N_reads' HO185.out).2.1); rintro e w20 ⟨v188, rfl, ho0, hb⟩; refine ⟨_, rfl, ?_⟩; have n0_ := Aside0.mk (Kd.V_elder' (by (with_reducible repeat (first | apply Kd.V_alloc | apply Kd.V_drewN | apply Kd.V_drew)); exact HO172.out) (Kd.R_base ho0) hb); have n1_ := Aside0.mk (Kd.R_elder' (by (with_reducible repeat (first | apply Kd.R_alloc | apply Kd.R_drewN | apply Kd.R_drew)); exact HO175.out) (Kd.R_base ho0) hb); have n2_ := Aside0.mk (Kd.R_elder' (by (with_reducible repeat (first | apply Kd.R_alloc | apply Kd.R_drewN | apply Kd.R_drew)); exact HO179.out) (Kd.R_base ho0) hb); have n3_ := Aside0.mk (Kd.R_elder' (by (with_reducible repeat (first | apply Kd.R_alloc | apply Kd.R_drewN | apply Kd.R_drew)); exact HO182.out) (Kd.R_base ho0) hb); have n4_ := Aside0.mk (Kd.N_elder' (by (with_reducible repeat (first | apply Kd.N_alloc | apply Kd.N_drewN | apply Kd.N_drew)); exact HO185.out) (Kd.R_base ho0) hb); have n5_ := Aside0.mk (Kd.R_lower (Kd.R_new' (Kd.R_new' (Kd.R_new' ho0 (Kd.R_lt (by (with_reducible repeat (first | apply Kd.R_alloc | apply Kd.R_drewN | apply Kd.R_drew)); exact HO175.out))) (Kd.R_lt (by (with_reducible repeat (first | apply Kd.R_alloc | apply Kd.R_drewN | apply Kd.R_drew)); exact HO179.out))) (Kd.R_lt (by (with_reducible repeat (first | apply Kd.R_alloc | apply Kd.R_drewN | apply Kd.R_drew)); exact HO182.out))) (below_size (by repeat (first | (with_reducible first | exact HB.out | apply below_alloc | apply pw_below_drewN | apply below_drew1) | exact HB.out)))); have n6_ := Aside0.mk (below_step (by repeat (first | (with_reducible first | exact HB.out | apply below_alloc | apply pw_below_drewN | apply below_drew1) | exact HB.out)) hb); clear HO172; clear HO175; clear HO179; clear HO182; clear HO185; clear HB; have HO172 := n0_; have HO175 := n1_; have HO179 := n2_; have HO182 := n3_; have HO185 := n4_; have HO189 := n5_; have HB := n6_; clear n0_ n1_ n2_ n3_ n4_ n5_ n6_; (try clear hb); (try clear hb2); (try clear hk); (try clear hi); (try clear ho0)))
  (try simp only [Act.put, List.setIfInBounds_toArray, List.set_cons_zero, List.set_cons_succ])
  go_cut [60] (fun v60 wc => ∃ (kq : Nat) (x60_6 : Bool), v60 = .bool x60_6 ∧ Aside0 (tillerlaw05_SoftAlone.j0 kq a0 a1 t170 t186 x60_6 = some r) ∧ Aside0 (kq ≤ k) ∧ Aside0 (Kd.V (Kd.int .i32) 32 wc w.heap.size (fun k_ => some k_ ≠ (v188 : Value).ownBlock) (.slice Ao15 t170.length co15) t170) ∧ Aside0 (Kd.R (Kd.int .i32) 32 wc w.heap.size (fun _ => True) v188 t186) ∧ Aside0 (Below w.heap.size w wc))
  case first =>
    have H := HC7.out
    clear HC7
    by_cases c21 : t177 = 0
    · rw [if_pos c21] at H
      have c21b0 : (t177 == 0) = true := beq_iff_eq.mpr c21
      have c21b1 : (t177 != 0) = false := bne_eq_false_iff_eq.mpr c21
      clear c21
      (first | rw [c21b0] | (simp only [i64_w, i32_w]; rw [c21b0]) | skip)
      by_cases c22 : (t176.length : Int) = 1
      · rw [if_pos c22] at H
        have c22b0 : ((t176.length : Int) == 1) = true := beq_iff_eq.mpr c22
        have c22b1 : ((t176.length : Int) != 1) = false := bne_eq_false_iff_eq.mpr c22
        clear c22
        by_cases c23 : 0 < (t176.length : Int)
        · rw [if_pos c23] at H
          have c23b0 : decide (0 < (t176.length : Int)) = true := decide_eq_true c23
          have c23b1 : decide (0 < t176.length) = true := decide_eq_true (by omega)
          clear c23
          by_cases c24 : (rd t176 0) = 65536
          · rw [if_pos c24] at H
            have c24b0 : ((rd t176 0) == 65536) = true := beq_iff_eq.mpr c24
            have c24b1 : ((rd t176 0) != 65536) = false := bne_eq_false_iff_eq.mpr c24
            clear c24
            by_cases c25 : t187 = 0
            · rw [if_pos c25] at H
              have c25b0 : (t187 == 0) = true := beq_iff_eq.mpr c25
              have c25b1 : (t187 != 0) = false := bne_eq_false_iff_eq.mpr c25
              clear c25
              have H' := Aside0.mk H
              clear H
              obtain ⟨Ao26, co26, eo26⟩ := Kd.R_slice HO179.out
              subst eo26
              have p190 : 0 ≤ (0 : Int) := (by omega)
              have q190 : 0 < (t176.length : Int) := of_decide_eq_true (by first | (with_reducible assumption) | assumption)
              obtain ⟨ad190, e190, hx190_0⟩ := Kd.at_int (Kd.R_reads' HO179.out).2.2 0 p190 q190
              cases e190
              have qi190 : (0 < t176.length) = True := eq_true (by omega)
              (try rw [show ((0 : Int)).toNat = 0 from rfl] at hx190_0)
              (try rw [Addr.add_zero'] at hx190_0)
              replace p190 := eq_true p190
              replace q190 := eq_true q190
              obtain ⟨Ao27, co27, eo27⟩ := Kd.R_slice HO189.out
              subst eo27
              go_wp2
              go_meet
              case rel => exact ⟨_, (((t186.length : Int) != (t170.length : Int))), (by first | rfl | (simp; done) | (simp [*]; done)), H', ⟨by first | omega | exact Nat.le_refl _⟩, ⟨by (with_reducible repeat (first | apply Kd.V_alloc | apply Kd.V_drewN | apply Kd.V_drew)); exact Kd.V_mono HO172.out (fun _ hk => hk.2)⟩, ⟨by (with_reducible repeat (first | apply Kd.R_alloc | apply Kd.R_drewN | apply Kd.R_drew)); exact Kd.R_mono HO189.out (fun _ hk => trivial)⟩, ⟨by repeat (first | (with_reducible first | exact HB.out | apply below_alloc | apply pw_below_drewN | apply below_drew1) | exact HB.out)⟩⟩
            · rw [if_neg c25] at H
              have c25b0 : (t187 == 0) = false := beq_eq_false_iff_ne.mpr c25
              have c25b1 : (t187 != 0) = true := bne_iff_ne.mpr c25
              have H' := Aside0.mk H
              clear H
              obtain ⟨Ao28, co28, eo28⟩ := Kd.R_slice HO179.out
              subst eo28
              have p190 : 0 ≤ (0 : Int) := (by omega)
              have q190 : 0 < (t176.length : Int) := of_decide_eq_true (by first | (with_reducible assumption) | assumption)
              obtain ⟨ad190, e190, hx190_0⟩ := Kd.at_int (Kd.R_reads' HO179.out).2.2 0 p190 q190
              cases e190
              have qi190 : (0 < t176.length) = True := eq_true (by omega)
              (try rw [show ((0 : Int)).toNat = 0 from rfl] at hx190_0)
              (try rw [Addr.add_zero'] at hx190_0)
              replace p190 := eq_true p190
              replace q190 := eq_true q190
              go_wp2
              go_meet
              case rel => exact ⟨_, (true), (by first | rfl | (simp; done) | (simp [*]; done)), H', ⟨by first | omega | exact Nat.le_refl _⟩, ⟨by (with_reducible repeat (first | apply Kd.V_alloc | apply Kd.V_drewN | apply Kd.V_drew)); exact Kd.V_mono HO172.out (fun _ hk => hk.2)⟩, ⟨by (with_reducible repeat (first | apply Kd.R_alloc | apply Kd.R_drewN | apply Kd.R_drew)); exact Kd.R_mono HO189.out (fun _ hk => trivial)⟩, ⟨by repeat (first | (with_reducible first | exact HB.out | apply below_alloc | apply pw_below_drewN | apply below_drew1) | exact HB.out)⟩⟩
          · rw [if_neg c24] at H
            have c24b0 : ((rd t176 0) == 65536) = false := beq_eq_false_iff_ne.mpr c24
            have c24b1 : ((rd t176 0) != 65536) = true := bne_iff_ne.mpr c24
            have H' := Aside0.mk H
            clear H
            obtain ⟨Ao29, co29, eo29⟩ := Kd.R_slice HO179.out
            subst eo29
            have p190 : 0 ≤ (0 : Int) := (by omega)
            have q190 : 0 < (t176.length : Int) := of_decide_eq_true (by first | (with_reducible assumption) | assumption)
            obtain ⟨ad190, e190, hx190_0⟩ := Kd.at_int (Kd.R_reads' HO179.out).2.2 0 p190 q190
            cases e190
            have qi190 : (0 < t176.length) = True := eq_true (by omega)
            (try rw [show ((0 : Int)).toNat = 0 from rfl] at hx190_0)
            (try rw [Addr.add_zero'] at hx190_0)
            replace p190 := eq_true p190
            replace q190 := eq_true q190
            go_wp2
            go_meet
            case rel => exact ⟨_, (true), (by first | rfl | (simp; done) | (simp [*]; done)), H', ⟨by first | omega | exact Nat.le_refl _⟩, ⟨by (with_reducible repeat (first | apply Kd.V_alloc | apply Kd.V_drewN | apply Kd.V_drew)); exact Kd.V_mono HO172.out (fun _ hk => hk.2)⟩, ⟨by (with_reducible repeat (first | apply Kd.R_alloc | apply Kd.R_drewN | apply Kd.R_drew)); exact Kd.R_mono HO189.out (fun _ hk => trivial)⟩, ⟨by repeat (first | (with_reducible first | exact HB.out | apply below_alloc | apply pw_below_drewN | apply below_drew1) | exact HB.out)⟩⟩
        · rw [if_neg c23] at H
          exact absurd H (by simp)
      · rw [if_neg c22] at H
        have c22b0 : ((t176.length : Int) == 1) = false := beq_eq_false_iff_ne.mpr c22
        have c22b1 : ((t176.length : Int) != 1) = true := bne_iff_ne.mpr c22
        have H' := Aside0.mk H
        clear H
        obtain ⟨Ao30, co30, eo30⟩ := Kd.R_slice HO179.out
        subst eo30
        go_wp2
        go_meet
        case rel => exact ⟨_, (true), (by first | rfl | (simp; done) | (simp [*]; done)), H', ⟨by first | omega | exact Nat.le_refl _⟩, ⟨by (with_reducible repeat (first | apply Kd.V_alloc | apply Kd.V_drewN | apply Kd.V_drew)); exact Kd.V_mono HO172.out (fun _ hk => hk.2)⟩, ⟨by (with_reducible repeat (first | apply Kd.R_alloc | apply Kd.R_drewN | apply Kd.R_drew)); exact Kd.R_mono HO189.out (fun _ hk => trivial)⟩, ⟨by repeat (first | (with_reducible first | exact HB.out | apply below_alloc | apply pw_below_drewN | apply below_drew1) | exact HB.out)⟩⟩
    · rw [if_neg c21] at H
      have c21b0 : (t177 == 0) = false := beq_eq_false_iff_ne.mpr c21
      have c21b1 : (t177 != 0) = true := bne_iff_ne.mpr c21
      (first | rw [c21b0] | (simp only [i64_w, i32_w]; rw [c21b0]) | skip)
      have H' := Aside0.mk H
      clear H
      go_wp2
      go_meet
      case rel => exact ⟨_, (true), (by first | rfl | (simp; done) | (simp [*]; done)), H', ⟨by first | omega | exact Nat.le_refl _⟩, ⟨by (with_reducible repeat (first | apply Kd.V_alloc | apply Kd.V_drewN | apply Kd.V_drew)); exact Kd.V_mono HO172.out (fun _ hk => hk.2)⟩, ⟨by (with_reducible repeat (first | apply Kd.R_alloc | apply Kd.R_drewN | apply Kd.R_drew)); exact Kd.R_mono HO189.out (fun _ hk => trivial)⟩, ⟨by repeat (first | (with_reducible first | exact HB.out | apply below_alloc | apply pw_below_drewN | apply below_drew1) | exact HB.out)⟩⟩
  case rest =>
    clear HC7
    try clear c1
    try clear p1
    try clear q1
    try clear hx1
    try clear qi1
    try clear c2
    try clear p2
    try clear c9
    try clear c10
    try clear c11
    try clear c17
    try clear p19
    try clear q19
    try clear hx19
    try clear qi19
    try clear c21
    try clear c21b0
    try clear c21b1
    try clear c22
    try clear c22b0
    try clear c22b1
    try clear c23
    try clear c23b0
    try clear c23b1
    try clear c24
    try clear c24b0
    try clear c24b1
    try clear c25
    try clear c25b0
    try clear c25b1
    try clear hx190_0
    try clear p190
    try clear q190
    obtain ⟨kq, x60_6, rfl, HA, HJ6, HO_2, HO_9, HB⟩ := hcut
    cases kq with
    | zero => exact absurd HA.out (by simp [tillerlaw05_SoftAlone.j0])
    | succ kj6 =>
      have H := HA.out
      clear HA
      simp only [tillerlaw05_SoftAlone.j0] at H
      by_cases c31 : x60_6 = true
      · subst c31
        have H1 : (some false) = some r := by rw [if_pos rfl] at H; exact H
        clear H
        have H := H1
        clear H1
        obtain rfl := Option.some.inj H
        go_wp2
        go_ret
        exact ⟨by first | rfl | (simp [errW_none, errW_some] <;> rfl) | (simp [*, errW_none, errW_some] <;> rfl), by repeat (first | (with_reducible first | exact HB.out | apply below_alloc | apply pw_below_drewN | apply below_drew1) | exact HB.out)⟩
      · replace c31 := Bool.eq_false_iff.mpr c31
        subst c31
        have H1 : (tillerlaw05_SoftAlone.l0 kj6 a0 a1 t186 t170 (t170.length : Int) 0) = some r := by rw [if_neg (show ¬ (false = true) by decide)] at H; exact H
        clear H
        have H := H1
        clear H1
        have H' := Aside0.mk H
        clear H
        go_wp2
        go_loopg [63] kj6 (fun kq v63 w' => ∃ (x63_2 : Int), v63 = .int .i64 x63_2 ∧ Aside0 (tillerlaw05_SoftAlone.l0 kq a0 a1 t186 t170 (t170.length : Int) x63_2 = some r) ∧ Aside0 (kq ≤ kj6) ∧ Aside0 (Kd.R (Kd.int .i32) 32 w' w.heap.size (fun _ => True) v188 t186) ∧ Aside0 (Kd.V (Kd.int .i32) 32 w' w.heap.size (fun k_ => some k_ ≠ (v188 : Value).ownBlock) (.slice Ao15 t170.length co15) t170) ∧ Aside0 (Below w.heap.size w w'))
        case atStart => exact ⟨(0), (by first | rfl | (simp; done) | (simp [*]; done)), H', ⟨Nat.le_refl _⟩, ⟨by (with_reducible repeat (first | apply Kd.R_alloc | apply Kd.R_drewN | apply Kd.R_drew)); exact HO_9.out⟩, ⟨by (with_reducible repeat (first | apply Kd.V_alloc | apply Kd.V_drewN | apply Kd.V_drew)); exact HO_2.out⟩, ⟨by repeat (first | (with_reducible first | exact HB.out | apply below_alloc | apply pw_below_drewN | apply below_drew1) | exact HB.out)⟩⟩
        case round =>
          clear H'
          try clear c1
          try clear p1
          try clear q1
          try clear hx1
          try clear qi1
          try clear c2
          try clear p2
          try clear c3
          try clear c9
          try clear c10
          try clear c11
          try clear c17
          try clear p19
          try clear q19
          try clear hx19
          try clear qi19
          try clear c21
          try clear c21b0
          try clear c21b1
          try clear c22
          try clear c22b0
          try clear c22b1
          try clear c23
          try clear c23b0
          try clear c23b1
          try clear c24
          try clear c24b0
          try clear c24b1
          try clear c25
          try clear c25b0
          try clear c25b1
          try clear c31
          try clear hx190_0
          try clear p1
          try clear p19
          try clear p190
          try clear p2
          try clear q1
          try clear q19
          try clear q190
          obtain ⟨x63_2, rfl, HA, HK2, HO_9, HO_61, HB⟩ := hrel
          cases gk with
          | zero => exact absurd HA.out (by simp [tillerlaw05_SoftAlone.l0])
          | succ k2 =>
            have H := HA.out
            clear HA
            simp only [tillerlaw05_SoftAlone.l0] at H
            by_cases c32 : x63_2 < (t170.length : Int)
            · rw [if_pos c32] at H
              have c32b0 : decide (x63_2 < (t170.length : Int)) = true := decide_eq_true c32
              clear c32
              by_cases c33 : 0 ≤ x63_2
              · rw [if_pos c33] at H
                have c33b0 : decide (0 ≤ x63_2) = true := decide_eq_true c33
                clear c33
                by_cases c34 : x63_2 < (t170.length : Int)
                · rw [if_pos c34] at H
                  have c34b0 : decide (x63_2 < (t170.length : Int)) = true := decide_eq_true c34
                  clear c34
                  by_cases c35 : x63_2 < (t186.length : Int)
                  · rw [if_pos c35] at H
                    have c35b0 : decide (x63_2 < (t186.length : Int)) = true := decide_eq_true c35
                    clear c35
                    obtain ⟨ji36, hji36⟩ : ∃ j_ : Int, (mx (rd t170 x63_2) (-2147483647)) = j_ := ⟨_, rfl⟩
                    replace H : (if (rd t186 x63_2) = (ji36) then (tillerlaw05_SoftAlone.l0 k2 a0 a1 t186 t170 (t170.length : Int) (wrap64 (x63_2 + 1))) else (some false)) = some r := by first | (rw [hji36] at H; exact H) | (simp only [hji36] at H ⊢; exact H)
                    have hji36_ : (if (rd t170 x63_2) < (-2147483647) then (-2147483647) else (rd t170 x63_2)) = ji36 := hji36
                    by_cases c37 : (rd t186 x63_2) = (ji36)
                    · rw [if_pos c37] at H
                      have c37b0 : ((rd t186 x63_2) == (ji36)) = true := beq_iff_eq.mpr c37
                      have c37b1 : ((rd t186 x63_2) != (ji36)) = false := bne_eq_false_iff_eq.mpr c37
                      clear c37
                      have H' := Aside0.mk H
                      clear H
                      have p191 : 0 ≤ (x63_2 : Int) := of_decide_eq_true (by first | (with_reducible assumption) | assumption)
                      have q191 : x63_2 < (t170.length : Int) := of_decide_eq_true (by first | (with_reducible assumption) | assumption)
                      obtain ⟨ad191, e191, hx191_0⟩ := Kd.at_int (Kd.V_reads' HO_61.out).2.2 x63_2 p191 q191
                      cases e191
                      replace p191 := eq_true p191
                      replace q191 := eq_true q191
                      obtain ⟨Ao38, co38, eo38⟩ := Kd.R_slice HO_9.out
                      subst eo38
                      have p192 : 0 ≤ (x63_2 : Int) := of_decide_eq_true (by first | (with_reducible assumption) | assumption)
                      have q192 : x63_2 < (t186.length : Int) := of_decide_eq_true (by first | (with_reducible assumption) | assumption)
                      obtain ⟨ad192, e192, hx192_0⟩ := Kd.at_int (Kd.R_reads' HO_9.out).2.2 x63_2 p192 q192
                      cases e192
                      replace p192 := eq_true p192
                      replace q192 := eq_true q192
                      go_wp2
                      go_roundg k2
                      case measure => have := HJ6.out; have := HK2.out; omega
                      case rel => exact ⟨(wrap64 (x63_2 + 1)), (by first | rfl | (simp; done) | (simp [*]; done)), H', ⟨by have := HJ6.out; have := HK2.out; omega⟩, ⟨by (with_reducible repeat (first | apply Kd.R_alloc | apply Kd.R_drewN | apply Kd.R_drew)); exact HO_9.out⟩, ⟨by (with_reducible repeat (first | apply Kd.V_alloc | apply Kd.V_drewN | apply Kd.V_drew)); exact HO_61.out⟩, ⟨by repeat (first | (with_reducible first | exact HB.out | apply below_alloc | apply pw_below_drewN | apply below_drew1) | exact HB.out)⟩⟩
                    · rw [if_neg c37] at H
                      have c37b0 : ((rd t186 x63_2) == (ji36)) = false := beq_eq_false_iff_ne.mpr c37
                      have c37b1 : ((rd t186 x63_2) != (ji36)) = true := bne_iff_ne.mpr c37
                      obtain rfl := Option.some.inj H
                      have p191 : 0 ≤ (x63_2 : Int) := of_decide_eq_true (by first | (with_reducible assumption) | assumption)
                      have q191 : x63_2 < (t170.length : Int) := of_decide_eq_true (by first | (with_reducible assumption) | assumption)
                      obtain ⟨ad191, e191, hx191_0⟩ := Kd.at_int (Kd.V_reads' HO_61.out).2.2 x63_2 p191 q191
                      cases e191
                      replace p191 := eq_true p191
                      replace q191 := eq_true q191
                      obtain ⟨Ao39, co39, eo39⟩ := Kd.R_slice HO_9.out
                      subst eo39
                      have p192 : 0 ≤ (x63_2 : Int) := of_decide_eq_true (by first | (with_reducible assumption) | assumption)
                      have q192 : x63_2 < (t186.length : Int) := of_decide_eq_true (by first | (with_reducible assumption) | assumption)
                      obtain ⟨ad192, e192, hx192_0⟩ := Kd.at_int (Kd.R_reads' HO_9.out).2.2 x63_2 p192 q192
                      cases e192
                      replace p192 := eq_true p192
                      replace q192 := eq_true q192
                      go_wp2
                      go_ret
                      exact ⟨by first | rfl | (simp [errW_none, errW_some] <;> rfl) | (simp only [← hji36]; first | rfl | (simp [errW_none, errW_some] <;> rfl)) | (simp [*, errW_none, errW_some] <;> rfl), by repeat (first | (with_reducible first | exact HB.out | apply below_alloc | apply pw_below_drewN | apply below_drew1) | exact HB.out)⟩
                  · rw [if_neg c35] at H
                    exact absurd H (by simp)
                · rw [if_neg c34] at H
                  exact absurd H (by simp)
              · rw [if_neg c33] at H
                exact absurd H (by simp)
            · rw [if_neg c32] at H
              have c32b0 : decide (x63_2 < (t170.length : Int)) = false := decide_eq_false c32
              clear c32
              have HC40 := Aside0.mk H
              clear H
              go_upto_region 12 with (fail)
              go_cut [81] (fun v81 wc => ∃ (kq : Nat) (x81_39 : Bool), v81 = .bool x81_39 ∧ Aside0 (tillerlaw05_SoftAlone.j2 kq a0 a1 x81_39 = some r) ∧ Aside0 (kq ≤ k2) ∧ Aside0 (Below w.heap.size w wc))
              case first =>
                have H := HC40.out
                clear HC40
                by_cases c41 : a1 < 1
                · rw [if_pos c41] at H
                  have c41b0 : decide (a1 < 1) = true := decide_eq_true c41
                  clear c41
                  (first | rw [c41b0] | (simp only [i64_w, i32_w]; rw [c41b0]) | skip)
                  have H' := Aside0.mk H
                  clear H
                  go_wp2
                  go_meet
                  case rel => exact ⟨_, (true), (by first | rfl | (simp; done) | (simp [*]; done)), H', ⟨by have := HJ6.out; have := HK2.out; first | omega | exact Nat.le_refl _⟩, ⟨by repeat (first | (with_reducible first | exact HB.out | apply below_alloc | apply pw_below_drewN | apply below_drew1) | exact HB.out)⟩⟩
                · rw [if_neg c41] at H
                  have c41b0 : decide (a1 < 1) = false := decide_eq_false c41
                  clear c41
                  (first | rw [c41b0] | (simp only [i64_w, i32_w]; rw [c41b0]) | skip)
                  have H' := Aside0.mk H
                  clear H
                  go_wp2
                  go_meet
                  case rel => exact ⟨_, (decide (a1 > 40)), (by first | rfl | (simp; done) | (simp [*]; done)), H', ⟨by have := HJ6.out; have := HK2.out; first | omega | exact Nat.le_refl _⟩, ⟨by repeat (first | (with_reducible first | exact HB.out | apply below_alloc | apply pw_below_drewN | apply below_drew1) | exact HB.out)⟩⟩
              case rest =>
                clear HC40
                try clear c1
                try clear p1
                try clear q1
                try clear hx1
                try clear qi1
                try clear c2
                try clear p2
                try clear c3
                try clear c4
                try clear p6
                try clear c9
                try clear c10
                try clear c11
                try clear c17
                try clear p19
                try clear q19
                try clear hx19
                try clear qi19
                try clear c21
                try clear c21b0
                try clear c21b1
                try clear c22
                try clear c22b0
                try clear c22b1
                try clear c23
                try clear c23b0
                try clear c23b1
                try clear c24
                try clear c24b0
                try clear c24b1
                try clear c25
                try clear c25b0
                try clear c25b1
                try clear c31
                try clear c32
                try clear c32b0
                try clear c33
                try clear c33b0
                try clear c34
                try clear c34b0
                try clear c35
                try clear c35b0
                try clear c37
                try clear c37b0
                try clear c37b1
                try clear c41
                try clear c41b0
                try clear hx190_0
                try clear hx191_0
                try clear hx192_0
                try clear p1
                try clear p19
                try clear p190
                try clear p191
                try clear p192
                try clear p2
                try clear q1
                try clear q19
                try clear q190
                try clear q191
                try clear q192
                obtain ⟨kq, x81_39, rfl, HA, HJ39, HB⟩ := hcut
                cases kq with
                | zero => exact absurd HA.out (by simp [tillerlaw05_SoftAlone.j2])
                | succ kj39 =>
                  have H := HA.out
                  clear HA
                  simp only [tillerlaw05_SoftAlone.j2] at H
                  by_cases c42 : x81_39 = true
                  · subst c42
                    have H1 : ((tillerlaw05_awake.f kj39).bind fun t193 => (some t193)) = some r := by rw [if_pos rfl] at H; exact H
                    clear H
                    have H := H1
                    clear H1
                    replace H := Option.bind_eq_some_iff.mp H
                    obtain ⟨t193, A430, H⟩ := H
                    replace H : (some t193) = some r := H
                    have A43 := Aside0.mk A430
                    clear A430
                    obtain rfl := Option.some.inj H
                    go_wp2_with (first | ((with_reducible refine gate_callee (f := 13) rfl ?_); refine goesL_ (some 82) rfl rfl Try.func13 (by kernel_rfl) rfl #[] rfl (by (try simp only [List.map_toArray, List.map_cons, List.map_nil]); first | done | rfl | (simp only [List.length_drop, List.length_take]; rfl)) ?_; (with_reducible refine (tillerlaw05_awake.calls kj39  t193 _ A43.out).mono ?_); rintro e w44 ⟨rfl, hb⟩; refine ⟨_, rfl, ?_⟩; have n0_ := Aside0.mk (below_step (by repeat (first | (with_reducible first | exact HB.out | apply below_alloc | apply pw_below_drewN | apply below_drew1) | exact HB.out)) hb); clear HB; have HB := n0_; clear n0_; (try clear hb); (try clear hb2); (try clear hk); (try clear hi)))
                    go_ret
                    exact ⟨by first | rfl | (simp [errW_none, errW_some] <;> rfl) | (simp [*, errW_none, errW_some] <;> rfl), by repeat (first | (with_reducible first | exact HB.out | apply below_alloc | apply pw_below_drewN | apply below_drew1) | exact HB.out)⟩
                  · replace c42 := Bool.eq_false_iff.mpr c42
                    subst c42
                    have H1 : (if 0 ≤ a1 then (if (a1 : Int).toNat ≤ 70368744177664 then (tillerlaw05_SoftAlone.l1 kj39 a0 a1 (([] : List Int)) (List.replicate (a1 : Int).toNat 0) (([] : List Int)) 0) else (none)) else (none)) = some r := by rw [if_neg (show ¬ (false = true) by decide)] at H; exact H
                    clear H
                    have H := H1
                    clear H1
                    obtain ⟨y194, hy194⟩ : ∃ y_ : List Int, y_ = (([] : List Int)) := ⟨_, rfl⟩
                    replace H : (if 0 ≤ a1 then (if (a1 : Int).toNat ≤ 70368744177664 then (tillerlaw05_SoftAlone.l1 kj39 a0 a1 y194 (List.replicate (a1 : Int).toNat 0) (([] : List Int)) 0) else (none)) else (none)) = some r := by first | (rw [hy194]; with_reducible exact H) | (have H2_ := (Option.bind_some _ _).symm.trans H; rw [hy194]; with_reducible exact H2_) | (have H2_ := (Option.bind_some _ _).symm.trans H; with_reducible exact H2_) | with_reducible exact H | (rw [hy194]; exact H) | exact H
                    have Ny194 := Aside0.mk hy194
                    clear hy194
                    by_cases c45 : 0 ≤ a1
                    · rw [if_pos c45] at H
                      have c45b0 := eq_true c45
                      have c45b1 : decide (0 ≤ a1) = true := decide_eq_true c45
                      clear c45
                      by_cases c46 : (a1 : Int).toNat ≤ 70368744177664
                      · rw [if_pos c46] at H
                        have c46b0 := eq_true c46
                        have c46b1 : decide ((a1 : Int).toNat ≤ 70368744177664) = true := decide_eq_true c46
                        clear c46
                        obtain ⟨y197, hy197⟩ : ∃ y_ : List Int, y_ = (List.replicate (a1 : Int).toNat 0) := ⟨_, rfl⟩
                        replace H : (tillerlaw05_SoftAlone.l1 kj39 a0 a1 y194 y197 (([] : List Int)) 0) = some r := by first | (rw [hy197]; with_reducible exact H) | (have H2_ := (Option.bind_some _ _).symm.trans H; rw [hy197]; with_reducible exact H2_) | (have H2_ := (Option.bind_some _ _).symm.trans H; with_reducible exact H2_) | with_reducible exact H | (rw [hy197]; exact H) | exact H
                        have Ny197 := Aside0.mk hy197
                        clear hy197
                        obtain ⟨y200, hy200⟩ : ∃ y_ : List Int, y_ = (([] : List Int)) := ⟨_, rfl⟩
                        replace H : (tillerlaw05_SoftAlone.l1 kj39 a0 a1 y194 y197 y200 0) = some r := by first | (rw [hy200]; with_reducible exact H) | (have H2_ := (Option.bind_some _ _).symm.trans H; rw [hy200]; with_reducible exact H2_) | (have H2_ := (Option.bind_some _ _).symm.trans H; with_reducible exact H2_) | with_reducible exact H | (rw [hy200]; exact H) | exact H
                        have Ny200 := Aside0.mk hy200
                        clear hy200
                        have H' := Aside0.mk H
                        clear H
                        try go_wp2
                        have n0_ := Aside0.mk (below_drew1 HB.out)
                        clear HB
                        have HB := n0_
                        clear n0_
                        refine start_ (n := 7) (S := fun w' => True) (ds := []) #[false, false, false, false, false, false, false] (by kernel_rfl) rfl rfl trivial (fun hHeld => ?_)
                        generalize wc.drew = w47 at HB hHeld ⊢
                        refine pure_ (i := 1) (N := some 84) (v := ?_) (a' := ?_) #[false, true, false, false, false, false, false] rfl rfl (by kernel_rfl) (fun _ _ _ h => h) (Or.inl ⟨by rfl, ?_⟩) ?_ ?_
                        rotate_left
                        · intro w'
                          go_simp
                          with_reducible rfl
                        rotate_left
                        · simp only [Act.put, List.setIfInBounds_toArray, List.set_cons_zero, List.set_cons_succ, i64_w, i32_w]
                          rfl
                        refine join_ (σ := Value × Value × Value) 1 #[true, true, true, true, true, true, false] (fun s_ => [(83, s_.1), (85, s_.2.1), (86, s_.2.2), (13, s_.1), (14, s_.2.1)]) (fun s_ w' => (Kd.R (Kd.int .i32) 32 w' w.heap.size (fun k_ => some k_ ≠ (s_.2.1 : Value).ownBlock ∧ some k_ ≠ (s_.2.2 : Value).ownBlock) s_.1 y194) ∧ (Kd.R (Kd.int .i32) 32 w' w.heap.size (fun k_ => some k_ ≠ (s_.1 : Value).ownBlock ∧ some k_ ≠ (s_.2.2 : Value).ownBlock) s_.2.1 y197) ∧ (Kd.R (Kd.int .i32) 32 w' w.heap.size (fun k_ => some k_ ≠ (s_.1 : Value).ownBlock ∧ some k_ ≠ (s_.2.1 : Value).ownBlock) s_.2.2 y200) ∧ (Below w.heap.size w w')) ?_ ?_
                        rotate_left
                        · intro hJ0_2_3
                          refine join_ (σ := Value × Value) 2 #[true, true, true, false, true, true, false] (fun s_ => [(83, s_.1), (85, s_.2), (13, s_.1), (14, s_.2)]) (fun s_ w' => (Kd.R (Kd.int .i32) 32 w' w.heap.size (fun k_ => some k_ ≠ (s_.2 : Value).ownBlock) s_.1 y194) ∧ (Kd.R (Kd.int .i32) 32 w' w.heap.size (fun k_ => some k_ ≠ (s_.1 : Value).ownBlock) s_.2 y197) ∧ (Below w.heap.size w w')) ?_ ?_
                          rotate_left
                          · intro hJ0_2
                            refine join_ (σ := Value × Value) 3 #[true, true, false, true, true, false, false] (fun s_ => [(83, s_.1), (86, s_.2), (13, s_.1)]) (fun s_ w' => (Kd.R (Kd.int .i32) 32 w' w.heap.size (fun k_ => some k_ ≠ (s_.2 : Value).ownBlock) s_.1 y194) ∧ (Kd.R (Kd.int .i32) 32 w' w.heap.size (fun k_ => some k_ ≠ (s_.1 : Value).ownBlock) s_.2 y200) ∧ (Below w.heap.size w w')) ?_ ?_
                            rotate_left
                            · intro hJ0_3
                              refine join_ (σ := Value × Value) 4 #[false, true, true, true, false, false, false] (fun s_ => [(85, s_.1), (86, s_.2)]) (fun s_ w' => (Kd.R (Kd.int .i32) 32 w' w.heap.size (fun k_ => some k_ ≠ (s_.2 : Value).ownBlock) s_.1 y197) ∧ (Kd.R (Kd.int .i32) 32 w' w.heap.size (fun k_ => some k_ ≠ (s_.1 : Value).ownBlock) s_.2 y200) ∧ (Below w.heap.size w w')) ?_ ?_
                              rotate_left
                              · intro hJ2_3
                                refine join_ (σ := Value) 4 #[true, true, false, false, true, false, false] (fun s_ => [(83, s_), (13, s_)]) (fun s_ w' => (Kd.R (Kd.int .i32) 32 w' w.heap.size (fun _ => True) s_ y194) ∧ (Below w.heap.size w w')) ?_ ?_
                                rotate_left
                                · intro hJ0
                                  refine join_ (σ := Value) 5 #[false, true, true, false, false, false, false] (fun s_ => [(85, s_)]) (fun s_ w' => (Kd.R (Kd.int .i32) 32 w' w.heap.size (fun _ => True) s_ y197) ∧ (Below w.heap.size w w')) ?_ ?_
                                  rotate_left
                                  · intro hJ2
                                    refine join_ (σ := Value) 5 #[false, true, false, true, false, false, false] (fun s_ => [(86, s_)]) (fun s_ w' => (Kd.R (Kd.int .i32) 32 w' w.heap.size (fun _ => True) s_ y200) ∧ (Below w.heap.size w w')) ?_ ?_
                                    rotate_left
                                    · intro hJ3
                                      refine three_ (i := 0) (j := 2) (k := 3) (Ni := some 83) (Nj := some 85) (Nk := some 86) #[true, true, false, false, false, false, false] #[false, true, true, false, false, false, false] #[false, true, false, true, false, false, false] rfl rfl rfl rfl rfl rfl (by kernel_rfl) (by decide) (by decide) (by decide) (fun K hK => ?_) (fun K hK => ?_) (fun K hK => ?_)
                                      · skip
                                        refine Kd.R_lit_step (Kd.int .i32) _ 32 ?hg (N := 83) ?hd (xs := ([] : List Int)) (inner := []) (ok := fun _ => True) (okp := fun _ => True) ?hr ?hp (fun _ hk => hk) trivial (Below.refl _ _) (Nat.le_refl _) (by simp) ?_; (case hd => rfl); (case hg => rfl); (case hr => first | (go_simp; done) | (go_simp; rfl)); (case hp => exact (Reps.none _ _))
                                        intro v195 w48 ho49 hb hg_ hnew_
                                        clear hg_ hnew_
                                        (first | rw [← Ny194.out] at ho49 | (simp only [Int.reduceToNat] at ho49; rw [← Ny194.out] at ho49))
                                        have n0_ := Aside0.mk (Kd.R_lower ho49 (below_size (by repeat (first | (with_reducible first | exact HB.out | apply below_alloc | apply pw_below_drewN | apply below_drew1) | exact HB.out))))
                                        have n1_ := Aside0.mk (below_step (by repeat (first | (with_reducible first | exact HB.out | apply below_alloc | apply pw_below_drewN | apply below_drew1) | exact HB.out)) hb)
                                        clear HB
                                        have HO196 := n0_
                                        have HB := n1_
                                        clear n0_ n1_
                                        clear hb ho49
                                        refine hK.out _ _ trivial (fun hHeld => ?_)
                                        clear hK K
                                        refine norm_ (a' := ?_) ?_ ?_
                                        rotate_left
                                        · show Act.put _ (some 83) _ = _
                                          simp only [Act.put, List.setIfInBounds_toArray, List.set_cons_zero, List.set_cons_succ, i64_w, i32_w]
                                          rfl
                                        refine pure_ (i := 4) (N := some 13) (v := ?_) (a' := ?_) #[true, true, false, false, true, false, false] rfl rfl (by kernel_rfl) (fun _ _ _ h => h) (Or.inl ⟨by rfl, ?_⟩) ?_ ?_
                                        rotate_left
                                        · intro w'
                                          go_simp
                                          with_reducible rfl
                                        rotate_left
                                        · simp only [Act.put, List.setIfInBounds_toArray, List.set_cons_zero, List.set_cons_succ, i64_w, i32_w]
                                          rfl
                                        exact norm_ (by first | (simp only [putAll, Act.put, List.setIfInBounds_toArray, List.set_cons_zero, List.set_cons_succ]; done) | (simp only [putAll, Act.put, List.setIfInBounds_toArray, List.set_cons_zero, List.set_cons_succ]; rfl)) (hJ0 (v195) _ ⟨(by (with_reducible repeat (first | apply Kd.R_alloc | apply Kd.R_drewN | apply Kd.R_drew)); exact HO196.out), (by repeat (first | (with_reducible first | exact HB.out | apply below_alloc | apply pw_below_drewN | apply below_drew1) | exact HB.out))⟩)
                                      · skip
                                        refine Kd.R_make_step (Kd.int .i32) _ 32 (by rfl) (N := 85) rfl 22 _ _ rfl a1 rfl rfl Try.underlying22 (.int .i32 0) 4 info32 rfl (by decide) (by omega) 0 (ok := fun _ => True) (okp := fun _ => True) rfl (fun _ hk => hk) trivial (of_decide_eq_true (by first | (with_reducible assumption) | assumption)) (Nat.le_trans (Nat.mul_le_mul_right _ (of_decide_eq_true (by first | (with_reducible assumption) | assumption) : a1.toNat ≤ 70368744177664)) (by omega)) (Below.refl _ _) (Nat.le_refl _) ?_
                                        intro v198 w48 ho49 hb hg_ hnew_
                                        clear hg_ hnew_
                                        (first | rw [← Ny197.out] at ho49 | (simp only [Int.reduceToNat] at ho49; rw [← Ny197.out] at ho49))
                                        have n0_ := Aside0.mk (Kd.R_lower ho49 (below_size (by repeat (first | (with_reducible first | exact HB.out | apply below_alloc | apply pw_below_drewN | apply below_drew1) | exact HB.out))))
                                        have n1_ := Aside0.mk (below_step (by repeat (first | (with_reducible first | exact HB.out | apply below_alloc | apply pw_below_drewN | apply below_drew1) | exact HB.out)) hb)
                                        clear HB
                                        have HO199 := n0_
                                        have HB := n1_
                                        clear n0_ n1_
                                        clear hb ho49
                                        refine hK.out _ _ trivial (fun hHeld => ?_)
                                        clear hK K
                                        refine norm_ (a' := ?_) ?_ ?_
                                        rotate_left
                                        · show Act.put _ (some 85) _ = _
                                          simp only [Act.put, List.setIfInBounds_toArray, List.set_cons_zero, List.set_cons_succ, i64_w, i32_w]
                                          rfl
                                        exact norm_ (by first | (simp only [putAll, Act.put, List.setIfInBounds_toArray, List.set_cons_zero, List.set_cons_succ]; done) | (simp only [putAll, Act.put, List.setIfInBounds_toArray, List.set_cons_zero, List.set_cons_succ]; rfl)) (hJ2 (v198) _ ⟨(by (with_reducible repeat (first | apply Kd.R_alloc | apply Kd.R_drewN | apply Kd.R_drew)); exact HO199.out), (by repeat (first | (with_reducible first | exact HB.out | apply below_alloc | apply pw_below_drewN | apply below_drew1) | exact HB.out))⟩)
                                      · skip
                                        refine Kd.R_lit_step (Kd.int .i32) _ 32 ?hg (N := 86) ?hd (xs := ([] : List Int)) (inner := []) (ok := fun _ => True) (okp := fun _ => True) ?hr ?hp (fun _ hk => hk) trivial (Below.refl _ _) (Nat.le_refl _) (by simp) ?_; (case hd => rfl); (case hg => rfl); (case hr => first | (go_simp; done) | (go_simp; rfl)); (case hp => exact (Reps.none _ _))
                                        intro v201 w48 ho49 hb hg_ hnew_
                                        clear hg_ hnew_
                                        (first | rw [← Ny200.out] at ho49 | (simp only [Int.reduceToNat] at ho49; rw [← Ny200.out] at ho49))
                                        have n0_ := Aside0.mk (Kd.R_lower ho49 (below_size (by repeat (first | (with_reducible first | exact HB.out | apply below_alloc | apply pw_below_drewN | apply below_drew1) | exact HB.out))))
                                        have n1_ := Aside0.mk (below_step (by repeat (first | (with_reducible first | exact HB.out | apply below_alloc | apply pw_below_drewN | apply below_drew1) | exact HB.out)) hb)
                                        clear HB
                                        have HO202 := n0_
                                        have HB := n1_
                                        clear n0_ n1_
                                        clear hb ho49
                                        refine hK.out _ _ trivial (fun hHeld => ?_)
                                        clear hK K
                                        refine norm_ (a' := ?_) ?_ ?_
                                        rotate_left
                                        · show Act.put _ (some 86) _ = _
                                          simp only [Act.put, List.setIfInBounds_toArray, List.set_cons_zero, List.set_cons_succ, i64_w, i32_w]
                                          rfl
                                        exact norm_ (by first | (simp only [putAll, Act.put, List.setIfInBounds_toArray, List.set_cons_zero, List.set_cons_succ]; done) | (simp only [putAll, Act.put, List.setIfInBounds_toArray, List.set_cons_zero, List.set_cons_succ]; rfl)) (hJ3 (v201) _ ⟨(by (with_reducible repeat (first | apply Kd.R_alloc | apply Kd.R_drewN | apply Kd.R_drew)); exact HO202.out), (by repeat (first | (with_reducible first | exact HB.out | apply below_alloc | apply pw_below_drewN | apply below_drew1) | exact HB.out))⟩)
                                    · skip
                                      rintro v201 w50 ⟨h0_, h1_⟩
                                      have n0_ : Aside0 (Kd.R (Kd.int .i32) 32 w50 w.heap.size (fun _ => True) v201 y200) := ⟨h0_⟩
                                      have n1_ : Aside0 (Below w.heap.size w w50) := ⟨h1_⟩
                                      clear HB
                                      clear h0_ h1_
                                      have HO202 := n0_
                                      have HB := n1_
                                      clear n0_ n1_
                                      have hHeld := trivial
                                      refine norm_ (a' := ?_) ?_ ?_
                                      rotate_left
                                      · simp only [putAll, Act.put, List.setIfInBounds_toArray, List.set_cons_zero, List.set_cons_succ]
                                        rfl
                                      refine two_ (i := 0) (j := 2) (Ni := some 83) (Nj := some 85) #[true, true, false, true, false, false, false] #[false, true, true, true, false, false, false] rfl rfl rfl rfl (by kernel_rfl) (by decide) (by decide) (fun K hK => ?_) (fun K hK => ?_)
                                      · skip
                                        refine Kd.R_lit_step (Kd.int .i32) _ 32 ?hg (N := 83) ?hd (xs := ([] : List Int)) (inner := []) (ok := fun _ => True) (okp := fun _ => True) ?hr ?hp (fun _ hk => hk) trivial (Below.refl _ _) (Nat.le_refl _) (by simp) ?_; (case hd => rfl); (case hg => rfl); (case hr => first | (go_simp; done) | (go_simp; rfl)); (case hp => exact (Reps.none _ _))
                                        intro v195 w51 ho52 hb hg_ hnew_
                                        clear hg_ hnew_
                                        (first | rw [← Ny194.out] at ho52 | (simp only [Int.reduceToNat] at ho52; rw [← Ny194.out] at ho52))
                                        have n0_ := Aside0.mk (Kd.R_elder' (by (with_reducible repeat (first | apply Kd.R_alloc | apply Kd.R_drewN | apply Kd.R_drew)); exact HO202.out) (Kd.R_base ho52) hb)
                                        have n1_ := Aside0.mk (Kd.R_lower (Kd.R_new' ho52 (Kd.R_lt (by (with_reducible repeat (first | apply Kd.R_alloc | apply Kd.R_drewN | apply Kd.R_drew)); exact HO202.out))) (below_size (by repeat (first | (with_reducible first | exact HB.out | apply below_alloc | apply pw_below_drewN | apply below_drew1) | exact HB.out))))
                                        have n2_ := Aside0.mk (below_step (by repeat (first | (with_reducible first | exact HB.out | apply below_alloc | apply pw_below_drewN | apply below_drew1) | exact HB.out)) hb)
                                        clear HO202
                                        clear HB
                                        have HO202 := n0_
                                        have HO196 := n1_
                                        have HB := n2_
                                        clear n0_ n1_ n2_
                                        clear hb ho52
                                        refine hK.out _ _ trivial (fun hHeld => ?_)
                                        clear hK K
                                        refine norm_ (a' := ?_) ?_ ?_
                                        rotate_left
                                        · show Act.put _ (some 83) _ = _
                                          simp only [Act.put, List.setIfInBounds_toArray, List.set_cons_zero, List.set_cons_succ, i64_w, i32_w]
                                          rfl
                                        refine pure_ (i := 4) (N := some 13) (v := ?_) (a' := ?_) #[true, true, false, true, true, false, false] rfl rfl (by kernel_rfl) (fun _ _ _ h => h) (Or.inl ⟨by rfl, ?_⟩) ?_ ?_
                                        rotate_left
                                        · intro w'
                                          go_simp
                                          with_reducible rfl
                                        rotate_left
                                        · simp only [Act.put, List.setIfInBounds_toArray, List.set_cons_zero, List.set_cons_succ, i64_w, i32_w]
                                          rfl
                                        exact norm_ (by first | (simp only [putAll, Act.put, List.setIfInBounds_toArray, List.set_cons_zero, List.set_cons_succ]; done) | (simp only [putAll, Act.put, List.setIfInBounds_toArray, List.set_cons_zero, List.set_cons_succ]; rfl)) (hJ0_3 (v195, v201) _ ⟨(by (with_reducible repeat (first | apply Kd.R_alloc | apply Kd.R_drewN | apply Kd.R_drew)); exact Kd.R_mono HO196.out (fun _ hk => hk.2)), (by (with_reducible repeat (first | apply Kd.R_alloc | apply Kd.R_drewN | apply Kd.R_drew)); exact Kd.R_mono HO202.out (fun _ hk => hk.2)), (by repeat (first | (with_reducible first | exact HB.out | apply below_alloc | apply pw_below_drewN | apply below_drew1) | exact HB.out))⟩)
                                      · skip
                                        refine Kd.R_make_step (Kd.int .i32) _ 32 (by rfl) (N := 85) rfl 22 _ _ rfl a1 rfl rfl Try.underlying22 (.int .i32 0) 4 info32 rfl (by decide) (by omega) 0 (ok := fun _ => True) (okp := fun _ => True) rfl (fun _ hk => hk) trivial (of_decide_eq_true (by first | (with_reducible assumption) | assumption)) (Nat.le_trans (Nat.mul_le_mul_right _ (of_decide_eq_true (by first | (with_reducible assumption) | assumption) : a1.toNat ≤ 70368744177664)) (by omega)) (Below.refl _ _) (Nat.le_refl _) ?_
                                        intro v198 w51 ho52 hb hg_ hnew_
                                        clear hg_ hnew_
                                        (first | rw [← Ny197.out] at ho52 | (simp only [Int.reduceToNat] at ho52; rw [← Ny197.out] at ho52))
                                        have n0_ := Aside0.mk (Kd.R_elder' (by (with_reducible repeat (first | apply Kd.R_alloc | apply Kd.R_drewN | apply Kd.R_drew)); exact HO202.out) (Kd.R_base ho52) hb)
                                        have n1_ := Aside0.mk (Kd.R_lower (Kd.R_new' ho52 (Kd.R_lt (by (with_reducible repeat (first | apply Kd.R_alloc | apply Kd.R_drewN | apply Kd.R_drew)); exact HO202.out))) (below_size (by repeat (first | (with_reducible first | exact HB.out | apply below_alloc | apply pw_below_drewN | apply below_drew1) | exact HB.out))))
                                        have n2_ := Aside0.mk (below_step (by repeat (first | (with_reducible first | exact HB.out | apply below_alloc | apply pw_below_drewN | apply below_drew1) | exact HB.out)) hb)
                                        clear HO202
                                        clear HB
                                        have HO202 := n0_
                                        have HO199 := n1_
                                        have HB := n2_
                                        clear n0_ n1_ n2_
                                        clear hb ho52
                                        refine hK.out _ _ trivial (fun hHeld => ?_)
                                        clear hK K
                                        refine norm_ (a' := ?_) ?_ ?_
                                        rotate_left
                                        · show Act.put _ (some 85) _ = _
                                          simp only [Act.put, List.setIfInBounds_toArray, List.set_cons_zero, List.set_cons_succ, i64_w, i32_w]
                                          rfl
                                        exact norm_ (by first | (simp only [putAll, Act.put, List.setIfInBounds_toArray, List.set_cons_zero, List.set_cons_succ]; done) | (simp only [putAll, Act.put, List.setIfInBounds_toArray, List.set_cons_zero, List.set_cons_succ]; rfl)) (hJ2_3 (v198, v201) _ ⟨(by (with_reducible repeat (first | apply Kd.R_alloc | apply Kd.R_drewN | apply Kd.R_drew)); exact Kd.R_mono HO199.out (fun _ hk => hk.2)), (by (with_reducible repeat (first | apply Kd.R_alloc | apply Kd.R_drewN | apply Kd.R_drew)); exact Kd.R_mono HO202.out (fun _ hk => hk.2)), (by repeat (first | (with_reducible first | exact HB.out | apply below_alloc | apply pw_below_drewN | apply below_drew1) | exact HB.out))⟩)
                                  · skip
                                    rintro v198 w50 ⟨h0_, h1_⟩
                                    have n0_ : Aside0 (Kd.R (Kd.int .i32) 32 w50 w.heap.size (fun _ => True) v198 y197) := ⟨h0_⟩
                                    have n1_ : Aside0 (Below w.heap.size w w50) := ⟨h1_⟩
                                    clear HB
                                    clear h0_ h1_
                                    have HO199 := n0_
                                    have HB := n1_
                                    clear n0_ n1_
                                    have hHeld := trivial
                                    refine norm_ (a' := ?_) ?_ ?_
                                    rotate_left
                                    · simp only [putAll, Act.put, List.setIfInBounds_toArray, List.set_cons_zero, List.set_cons_succ]
                                      rfl
                                    refine two_ (i := 0) (j := 3) (Ni := some 83) (Nj := some 86) #[true, true, true, false, false, false, false] #[false, true, true, true, false, false, false] rfl rfl rfl rfl (by kernel_rfl) (by decide) (by decide) (fun K hK => ?_) (fun K hK => ?_)
                                    · skip
                                      refine Kd.R_lit_step (Kd.int .i32) _ 32 ?hg (N := 83) ?hd (xs := ([] : List Int)) (inner := []) (ok := fun _ => True) (okp := fun _ => True) ?hr ?hp (fun _ hk => hk) trivial (Below.refl _ _) (Nat.le_refl _) (by simp) ?_; (case hd => rfl); (case hg => rfl); (case hr => first | (go_simp; done) | (go_simp; rfl)); (case hp => exact (Reps.none _ _))
                                      intro v195 w51 ho52 hb hg_ hnew_
                                      clear hg_ hnew_
                                      (first | rw [← Ny194.out] at ho52 | (simp only [Int.reduceToNat] at ho52; rw [← Ny194.out] at ho52))
                                      have n0_ := Aside0.mk (Kd.R_elder' (by (with_reducible repeat (first | apply Kd.R_alloc | apply Kd.R_drewN | apply Kd.R_drew)); exact HO199.out) (Kd.R_base ho52) hb)
                                      have n1_ := Aside0.mk (Kd.R_lower (Kd.R_new' ho52 (Kd.R_lt (by (with_reducible repeat (first | apply Kd.R_alloc | apply Kd.R_drewN | apply Kd.R_drew)); exact HO199.out))) (below_size (by repeat (first | (with_reducible first | exact HB.out | apply below_alloc | apply pw_below_drewN | apply below_drew1) | exact HB.out))))
                                      have n2_ := Aside0.mk (below_step (by repeat (first | (with_reducible first | exact HB.out | apply below_alloc | apply pw_below_drewN | apply below_drew1) | exact HB.out)) hb)
                                      clear HO199
                                      clear HB
                                      have HO199 := n0_
                                      have HO196 := n1_
                                      have HB := n2_
                                      clear n0_ n1_ n2_
                                      clear hb ho52
                                      refine hK.out _ _ trivial (fun hHeld => ?_)
                                      clear hK K
                                      refine norm_ (a' := ?_) ?_ ?_
                                      rotate_left
                                      · show Act.put _ (some 83) _ = _
                                        simp only [Act.put, List.setIfInBounds_toArray, List.set_cons_zero, List.set_cons_succ, i64_w, i32_w]
                                        rfl
                                      refine pure_ (i := 4) (N := some 13) (v := ?_) (a' := ?_) #[true, true, true, false, true, false, false] rfl rfl (by kernel_rfl) (fun _ _ _ h => h) (Or.inl ⟨by rfl, ?_⟩) ?_ ?_
                                      rotate_left
                                      · intro w'
                                        go_simp
                                        with_reducible rfl
                                      rotate_left
                                      · simp only [Act.put, List.setIfInBounds_toArray, List.set_cons_zero, List.set_cons_succ, i64_w, i32_w]
                                        rfl
                                      refine pure_ (i := 5) (N := some 14) (v := ?_) (a' := ?_) #[true, true, true, false, true, true, false] rfl rfl (by kernel_rfl) (fun _ _ _ h => h) (Or.inl ⟨by rfl, ?_⟩) ?_ ?_
                                      rotate_left
                                      · intro w'
                                        go_simp
                                        with_reducible rfl
                                      rotate_left
                                      · simp only [Act.put, List.setIfInBounds_toArray, List.set_cons_zero, List.set_cons_succ, i64_w, i32_w]
                                        rfl
                                      exact norm_ (by first | (simp only [putAll, Act.put, List.setIfInBounds_toArray, List.set_cons_zero, List.set_cons_succ]; done) | (simp only [putAll, Act.put, List.setIfInBounds_toArray, List.set_cons_zero, List.set_cons_succ]; rfl)) (hJ0_2 (v195, v198) _ ⟨(by (with_reducible repeat (first | apply Kd.R_alloc | apply Kd.R_drewN | apply Kd.R_drew)); exact Kd.R_mono HO196.out (fun _ hk => hk.2)), (by (with_reducible repeat (first | apply Kd.R_alloc | apply Kd.R_drewN | apply Kd.R_drew)); exact Kd.R_mono HO199.out (fun _ hk => hk.2)), (by repeat (first | (with_reducible first | exact HB.out | apply below_alloc | apply pw_below_drewN | apply below_drew1) | exact HB.out))⟩)
                                    · skip
                                      refine Kd.R_lit_step (Kd.int .i32) _ 32 ?hg (N := 86) ?hd (xs := ([] : List Int)) (inner := []) (ok := fun _ => True) (okp := fun _ => True) ?hr ?hp (fun _ hk => hk) trivial (Below.refl _ _) (Nat.le_refl _) (by simp) ?_; (case hd => rfl); (case hg => rfl); (case hr => first | (go_simp; done) | (go_simp; rfl)); (case hp => exact (Reps.none _ _))
                                      intro v201 w51 ho52 hb hg_ hnew_
                                      clear hg_ hnew_
                                      (first | rw [← Ny200.out] at ho52 | (simp only [Int.reduceToNat] at ho52; rw [← Ny200.out] at ho52))
                                      have n0_ := Aside0.mk (Kd.R_elder' (by (with_reducible repeat (first | apply Kd.R_alloc | apply Kd.R_drewN | apply Kd.R_drew)); exact HO199.out) (Kd.R_base ho52) hb)
                                      have n1_ := Aside0.mk (Kd.R_lower (Kd.R_new' ho52 (Kd.R_lt (by (with_reducible repeat (first | apply Kd.R_alloc | apply Kd.R_drewN | apply Kd.R_drew)); exact HO199.out))) (below_size (by repeat (first | (with_reducible first | exact HB.out | apply below_alloc | apply pw_below_drewN | apply below_drew1) | exact HB.out))))
                                      have n2_ := Aside0.mk (below_step (by repeat (first | (with_reducible first | exact HB.out | apply below_alloc | apply pw_below_drewN | apply below_drew1) | exact HB.out)) hb)
                                      clear HO199
                                      clear HB
                                      have HO199 := n0_
                                      have HO202 := n1_
                                      have HB := n2_
                                      clear n0_ n1_ n2_
                                      clear hb ho52
                                      refine hK.out _ _ trivial (fun hHeld => ?_)
                                      clear hK K
                                      refine norm_ (a' := ?_) ?_ ?_
                                      rotate_left
                                      · show Act.put _ (some 86) _ = _
                                        simp only [Act.put, List.setIfInBounds_toArray, List.set_cons_zero, List.set_cons_succ, i64_w, i32_w]
                                        rfl
                                      exact norm_ (by first | (simp only [putAll, Act.put, List.setIfInBounds_toArray, List.set_cons_zero, List.set_cons_succ]; done) | (simp only [putAll, Act.put, List.setIfInBounds_toArray, List.set_cons_zero, List.set_cons_succ]; rfl)) (hJ2_3 (v198, v201) _ ⟨(by (with_reducible repeat (first | apply Kd.R_alloc | apply Kd.R_drewN | apply Kd.R_drew)); exact Kd.R_mono HO199.out (fun _ hk => hk.2)), (by (with_reducible repeat (first | apply Kd.R_alloc | apply Kd.R_drewN | apply Kd.R_drew)); exact Kd.R_mono HO202.out (fun _ hk => hk.2)), (by repeat (first | (with_reducible first | exact HB.out | apply below_alloc | apply pw_below_drewN | apply below_drew1) | exact HB.out))⟩)
                                · skip
                                  rintro v195 w50 ⟨h0_, h1_⟩
                                  have n0_ : Aside0 (Kd.R (Kd.int .i32) 32 w50 w.heap.size (fun _ => True) v195 y194) := ⟨h0_⟩
                                  have n1_ : Aside0 (Below w.heap.size w w50) := ⟨h1_⟩
                                  clear HB
                                  clear h0_ h1_
                                  have HO196 := n0_
                                  have HB := n1_
                                  clear n0_ n1_
                                  have hHeld := trivial
                                  refine norm_ (a' := ?_) ?_ ?_
                                  rotate_left
                                  · simp only [putAll, Act.put, List.setIfInBounds_toArray, List.set_cons_zero, List.set_cons_succ]
                                    rfl
                                  refine two_ (i := 2) (j := 3) (Ni := some 85) (Nj := some 86) #[true, true, true, false, true, false, false] #[true, true, false, true, true, false, false] rfl rfl rfl rfl (by kernel_rfl) (by decide) (by decide) (fun K hK => ?_) (fun K hK => ?_)
                                  · skip
                                    refine Kd.R_make_step (Kd.int .i32) _ 32 (by rfl) (N := 85) rfl 22 _ _ rfl a1 rfl rfl Try.underlying22 (.int .i32 0) 4 info32 rfl (by decide) (by omega) 0 (ok := fun _ => True) (okp := fun _ => True) rfl (fun _ hk => hk) trivial (of_decide_eq_true (by first | (with_reducible assumption) | assumption)) (Nat.le_trans (Nat.mul_le_mul_right _ (of_decide_eq_true (by first | (with_reducible assumption) | assumption) : a1.toNat ≤ 70368744177664)) (by omega)) (Below.refl _ _) (Nat.le_refl _) ?_
                                    intro v198 w51 ho52 hb hg_ hnew_
                                    clear hg_ hnew_
                                    (first | rw [← Ny197.out] at ho52 | (simp only [Int.reduceToNat] at ho52; rw [← Ny197.out] at ho52))
                                    have n0_ := Aside0.mk (Kd.R_elder' (by (with_reducible repeat (first | apply Kd.R_alloc | apply Kd.R_drewN | apply Kd.R_drew)); exact HO196.out) (Kd.R_base ho52) hb)
                                    have n1_ := Aside0.mk (Kd.R_lower (Kd.R_new' ho52 (Kd.R_lt (by (with_reducible repeat (first | apply Kd.R_alloc | apply Kd.R_drewN | apply Kd.R_drew)); exact HO196.out))) (below_size (by repeat (first | (with_reducible first | exact HB.out | apply below_alloc | apply pw_below_drewN | apply below_drew1) | exact HB.out))))
                                    have n2_ := Aside0.mk (below_step (by repeat (first | (with_reducible first | exact HB.out | apply below_alloc | apply pw_below_drewN | apply below_drew1) | exact HB.out)) hb)
                                    clear HO196
                                    clear HB
                                    have HO196 := n0_
                                    have HO199 := n1_
                                    have HB := n2_
                                    clear n0_ n1_ n2_
                                    clear hb ho52
                                    refine hK.out _ _ trivial (fun hHeld => ?_)
                                    clear hK K
                                    refine norm_ (a' := ?_) ?_ ?_
                                    rotate_left
                                    · show Act.put _ (some 85) _ = _
                                      simp only [Act.put, List.setIfInBounds_toArray, List.set_cons_zero, List.set_cons_succ, i64_w, i32_w]
                                      rfl
                                    refine pure_ (i := 5) (N := some 14) (v := ?_) (a' := ?_) #[true, true, true, false, true, true, false] rfl rfl (by kernel_rfl) (fun _ _ _ h => h) (Or.inl ⟨by rfl, ?_⟩) ?_ ?_
                                    rotate_left
                                    · intro w'
                                      go_simp
                                      with_reducible rfl
                                    rotate_left
                                    · simp only [Act.put, List.setIfInBounds_toArray, List.set_cons_zero, List.set_cons_succ, i64_w, i32_w]
                                      rfl
                                    exact norm_ (by first | (simp only [putAll, Act.put, List.setIfInBounds_toArray, List.set_cons_zero, List.set_cons_succ]; done) | (simp only [putAll, Act.put, List.setIfInBounds_toArray, List.set_cons_zero, List.set_cons_succ]; rfl)) (hJ0_2 (v195, v198) _ ⟨(by (with_reducible repeat (first | apply Kd.R_alloc | apply Kd.R_drewN | apply Kd.R_drew)); exact Kd.R_mono HO196.out (fun _ hk => hk.2)), (by (with_reducible repeat (first | apply Kd.R_alloc | apply Kd.R_drewN | apply Kd.R_drew)); exact Kd.R_mono HO199.out (fun _ hk => hk.2)), (by repeat (first | (with_reducible first | exact HB.out | apply below_alloc | apply pw_below_drewN | apply below_drew1) | exact HB.out))⟩)
                                  · skip
                                    refine Kd.R_lit_step (Kd.int .i32) _ 32 ?hg (N := 86) ?hd (xs := ([] : List Int)) (inner := []) (ok := fun _ => True) (okp := fun _ => True) ?hr ?hp (fun _ hk => hk) trivial (Below.refl _ _) (Nat.le_refl _) (by simp) ?_; (case hd => rfl); (case hg => rfl); (case hr => first | (go_simp; done) | (go_simp; rfl)); (case hp => exact (Reps.none _ _))
                                    intro v201 w51 ho52 hb hg_ hnew_
                                    clear hg_ hnew_
                                    (first | rw [← Ny200.out] at ho52 | (simp only [Int.reduceToNat] at ho52; rw [← Ny200.out] at ho52))
                                    have n0_ := Aside0.mk (Kd.R_elder' (by (with_reducible repeat (first | apply Kd.R_alloc | apply Kd.R_drewN | apply Kd.R_drew)); exact HO196.out) (Kd.R_base ho52) hb)
                                    have n1_ := Aside0.mk (Kd.R_lower (Kd.R_new' ho52 (Kd.R_lt (by (with_reducible repeat (first | apply Kd.R_alloc | apply Kd.R_drewN | apply Kd.R_drew)); exact HO196.out))) (below_size (by repeat (first | (with_reducible first | exact HB.out | apply below_alloc | apply pw_below_drewN | apply below_drew1) | exact HB.out))))
                                    have n2_ := Aside0.mk (below_step (by repeat (first | (with_reducible first | exact HB.out | apply below_alloc | apply pw_below_drewN | apply below_drew1) | exact HB.out)) hb)
                                    clear HO196
                                    clear HB
                                    have HO196 := n0_
                                    have HO202 := n1_
                                    have HB := n2_
                                    clear n0_ n1_ n2_
                                    clear hb ho52
                                    refine hK.out _ _ trivial (fun hHeld => ?_)
                                    clear hK K
                                    refine norm_ (a' := ?_) ?_ ?_
                                    rotate_left
                                    · show Act.put _ (some 86) _ = _
                                      simp only [Act.put, List.setIfInBounds_toArray, List.set_cons_zero, List.set_cons_succ, i64_w, i32_w]
                                      rfl
                                    exact norm_ (by first | (simp only [putAll, Act.put, List.setIfInBounds_toArray, List.set_cons_zero, List.set_cons_succ]; done) | (simp only [putAll, Act.put, List.setIfInBounds_toArray, List.set_cons_zero, List.set_cons_succ]; rfl)) (hJ0_3 (v195, v201) _ ⟨(by (with_reducible repeat (first | apply Kd.R_alloc | apply Kd.R_drewN | apply Kd.R_drew)); exact Kd.R_mono HO196.out (fun _ hk => hk.2)), (by (with_reducible repeat (first | apply Kd.R_alloc | apply Kd.R_drewN | apply Kd.R_drew)); exact Kd.R_mono HO202.out (fun _ hk => hk.2)), (by repeat (first | (with_reducible first | exact HB.out | apply below_alloc | apply pw_below_drewN | apply below_drew1) | exact HB.out))⟩)
                              · skip
                                rintro ⟨v198, v201⟩ w52 ⟨h0_, h1_, h2_⟩
                                have n0_ : Aside0 (Kd.R (Kd.int .i32) 32 w52 w.heap.size (fun k_ => some k_ ≠ (v201 : Value).ownBlock) v198 y197) := ⟨h0_⟩
                                have n1_ : Aside0 (Kd.R (Kd.int .i32) 32 w52 w.heap.size (fun k_ => some k_ ≠ (v198 : Value).ownBlock) v201 y200) := ⟨h1_⟩
                                have n2_ : Aside0 (Below w.heap.size w w52) := ⟨h2_⟩
                                clear HB
                                clear h0_ h1_ h2_
                                have HO199 := n0_
                                have HO202 := n1_
                                have HB := n2_
                                clear n0_ n1_ n2_
                                have hHeld := trivial
                                refine norm_ (a' := ?_) ?_ ?_
                                rotate_left
                                · simp only [putAll, Act.put, List.setIfInBounds_toArray, List.set_cons_zero, List.set_cons_succ]
                                  rfl
                                refine one_ (i := 0) (N := some 83) #[true, true, true, true, false, false, false] rfl rfl (by kernel_rfl) (by decide) (fun K hK => ?_)
                                refine Kd.R_lit_step (Kd.int .i32) _ 32 ?hg (N := 83) ?hd (xs := ([] : List Int)) (inner := []) (ok := fun _ => True) (okp := fun _ => True) ?hr ?hp (fun _ hk => hk) trivial (Below.refl _ _) (Nat.le_refl _) (by simp) ?_; (case hd => rfl); (case hg => rfl); (case hr => first | (go_simp; done) | (go_simp; rfl)); (case hp => exact (Reps.none _ _))
                                intro v195 w53 ho54 hb hg_ hnew_
                                clear hg_ hnew_
                                (first | rw [← Ny194.out] at ho54 | (simp only [Int.reduceToNat] at ho54; rw [← Ny194.out] at ho54))
                                have n0_ := Aside0.mk (Kd.R_elder' (by (with_reducible repeat (first | apply Kd.R_alloc | apply Kd.R_drewN | apply Kd.R_drew)); exact HO199.out) (Kd.R_base ho54) hb)
                                have n1_ := Aside0.mk (Kd.R_elder' (by (with_reducible repeat (first | apply Kd.R_alloc | apply Kd.R_drewN | apply Kd.R_drew)); exact HO202.out) (Kd.R_base ho54) hb)
                                have n2_ := Aside0.mk (Kd.R_lower (Kd.R_new' (Kd.R_new' ho54 (Kd.R_lt (by (with_reducible repeat (first | apply Kd.R_alloc | apply Kd.R_drewN | apply Kd.R_drew)); exact HO199.out))) (Kd.R_lt (by (with_reducible repeat (first | apply Kd.R_alloc | apply Kd.R_drewN | apply Kd.R_drew)); exact HO202.out))) (below_size (by repeat (first | (with_reducible first | exact HB.out | apply below_alloc | apply pw_below_drewN | apply below_drew1) | exact HB.out))))
                                have n3_ := Aside0.mk (below_step (by repeat (first | (with_reducible first | exact HB.out | apply below_alloc | apply pw_below_drewN | apply below_drew1) | exact HB.out)) hb)
                                clear HO199
                                clear HO202
                                clear HB
                                have HO199 := n0_
                                have HO202 := n1_
                                have HO196 := n2_
                                have HB := n3_
                                clear n0_ n1_ n2_ n3_
                                clear hb ho54
                                refine hK.out _ _ trivial (fun hHeld => ?_)
                                clear hK K
                                refine norm_ (a' := ?_) ?_ ?_
                                rotate_left
                                · show Act.put _ (some 83) _ = _
                                  simp only [Act.put, List.setIfInBounds_toArray, List.set_cons_zero, List.set_cons_succ, i64_w, i32_w]
                                  rfl
                                refine pure_ (i := 4) (N := some 13) (v := ?_) (a' := ?_) #[true, true, true, true, true, false, false] rfl rfl (by kernel_rfl) (fun _ _ _ h => h) (Or.inl ⟨by rfl, ?_⟩) ?_ ?_
                                rotate_left
                                · intro w'
                                  go_simp
                                  with_reducible rfl
                                rotate_left
                                · simp only [Act.put, List.setIfInBounds_toArray, List.set_cons_zero, List.set_cons_succ, i64_w, i32_w]
                                  rfl
                                refine pure_ (i := 5) (N := some 14) (v := ?_) (a' := ?_) #[true, true, true, true, true, true, false] rfl rfl (by kernel_rfl) (fun _ _ _ h => h) (Or.inl ⟨by rfl, ?_⟩) ?_ ?_
                                rotate_left
                                · intro w'
                                  go_simp
                                  with_reducible rfl
                                rotate_left
                                · simp only [Act.put, List.setIfInBounds_toArray, List.set_cons_zero, List.set_cons_succ, i64_w, i32_w]
                                  rfl
                                exact norm_ (by first | (simp only [putAll, Act.put, List.setIfInBounds_toArray, List.set_cons_zero, List.set_cons_succ]; done) | (simp only [putAll, Act.put, List.setIfInBounds_toArray, List.set_cons_zero, List.set_cons_succ]; rfl)) (hJ0_2_3 (v195, v198, v201) _ ⟨(by (with_reducible repeat (first | apply Kd.R_alloc | apply Kd.R_drewN | apply Kd.R_drew)); exact Kd.R_mono HO196.out (fun _ hk => ⟨hk.1.2, hk.2⟩)), (by (with_reducible repeat (first | apply Kd.R_alloc | apply Kd.R_drewN | apply Kd.R_drew)); exact Kd.R_mono HO199.out (fun _ hk => ⟨hk.2, hk.1⟩)), (by (with_reducible repeat (first | apply Kd.R_alloc | apply Kd.R_drewN | apply Kd.R_drew)); exact Kd.R_mono HO202.out (fun _ hk => ⟨hk.2, hk.1⟩)), (by repeat (first | (with_reducible first | exact HB.out | apply below_alloc | apply pw_below_drewN | apply below_drew1) | exact HB.out))⟩)
                            · skip
                              rintro ⟨v195, v201⟩ w52 ⟨h0_, h1_, h2_⟩
                              have n0_ : Aside0 (Kd.R (Kd.int .i32) 32 w52 w.heap.size (fun k_ => some k_ ≠ (v201 : Value).ownBlock) v195 y194) := ⟨h0_⟩
                              have n1_ : Aside0 (Kd.R (Kd.int .i32) 32 w52 w.heap.size (fun k_ => some k_ ≠ (v195 : Value).ownBlock) v201 y200) := ⟨h1_⟩
                              have n2_ : Aside0 (Below w.heap.size w w52) := ⟨h2_⟩
                              clear HB
                              clear h0_ h1_ h2_
                              have HO196 := n0_
                              have HO202 := n1_
                              have HB := n2_
                              clear n0_ n1_ n2_
                              have hHeld := trivial
                              refine norm_ (a' := ?_) ?_ ?_
                              rotate_left
                              · simp only [putAll, Act.put, List.setIfInBounds_toArray, List.set_cons_zero, List.set_cons_succ]
                                rfl
                              refine one_ (i := 2) (N := some 85) #[true, true, true, true, true, false, false] rfl rfl (by kernel_rfl) (by decide) (fun K hK => ?_)
                              refine Kd.R_make_step (Kd.int .i32) _ 32 (by rfl) (N := 85) rfl 22 _ _ rfl a1 rfl rfl Try.underlying22 (.int .i32 0) 4 info32 rfl (by decide) (by omega) 0 (ok := fun _ => True) (okp := fun _ => True) rfl (fun _ hk => hk) trivial (of_decide_eq_true (by first | (with_reducible assumption) | assumption)) (Nat.le_trans (Nat.mul_le_mul_right _ (of_decide_eq_true (by first | (with_reducible assumption) | assumption) : a1.toNat ≤ 70368744177664)) (by omega)) (Below.refl _ _) (Nat.le_refl _) ?_
                              intro v198 w53 ho54 hb hg_ hnew_
                              clear hg_ hnew_
                              (first | rw [← Ny197.out] at ho54 | (simp only [Int.reduceToNat] at ho54; rw [← Ny197.out] at ho54))
                              have n0_ := Aside0.mk (Kd.R_elder' (by (with_reducible repeat (first | apply Kd.R_alloc | apply Kd.R_drewN | apply Kd.R_drew)); exact HO196.out) (Kd.R_base ho54) hb)
                              have n1_ := Aside0.mk (Kd.R_elder' (by (with_reducible repeat (first | apply Kd.R_alloc | apply Kd.R_drewN | apply Kd.R_drew)); exact HO202.out) (Kd.R_base ho54) hb)
                              have n2_ := Aside0.mk (Kd.R_lower (Kd.R_new' (Kd.R_new' ho54 (Kd.R_lt (by (with_reducible repeat (first | apply Kd.R_alloc | apply Kd.R_drewN | apply Kd.R_drew)); exact HO196.out))) (Kd.R_lt (by (with_reducible repeat (first | apply Kd.R_alloc | apply Kd.R_drewN | apply Kd.R_drew)); exact HO202.out))) (below_size (by repeat (first | (with_reducible first | exact HB.out | apply below_alloc | apply pw_below_drewN | apply below_drew1) | exact HB.out))))
                              have n3_ := Aside0.mk (below_step (by repeat (first | (with_reducible first | exact HB.out | apply below_alloc | apply pw_below_drewN | apply below_drew1) | exact HB.out)) hb)
                              clear HO196
                              clear HO202
                              clear HB
                              have HO196 := n0_
                              have HO202 := n1_
                              have HO199 := n2_
                              have HB := n3_
                              clear n0_ n1_ n2_ n3_
                              clear hb ho54
                              refine hK.out _ _ trivial (fun hHeld => ?_)
                              clear hK K
                              refine norm_ (a' := ?_) ?_ ?_
                              rotate_left
                              · show Act.put _ (some 85) _ = _
                                simp only [Act.put, List.setIfInBounds_toArray, List.set_cons_zero, List.set_cons_succ, i64_w, i32_w]
                                rfl
                              refine pure_ (i := 5) (N := some 14) (v := ?_) (a' := ?_) #[true, true, true, true, true, true, false] rfl rfl (by kernel_rfl) (fun _ _ _ h => h) (Or.inl ⟨by rfl, ?_⟩) ?_ ?_
                              rotate_left
                              · intro w'
                                go_simp
                                with_reducible rfl
                              rotate_left
                              · simp only [Act.put, List.setIfInBounds_toArray, List.set_cons_zero, List.set_cons_succ, i64_w, i32_w]
                                rfl
                              exact norm_ (by first | (simp only [putAll, Act.put, List.setIfInBounds_toArray, List.set_cons_zero, List.set_cons_succ]; done) | (simp only [putAll, Act.put, List.setIfInBounds_toArray, List.set_cons_zero, List.set_cons_succ]; rfl)) (hJ0_2_3 (v195, v198, v201) _ ⟨(by (with_reducible repeat (first | apply Kd.R_alloc | apply Kd.R_drewN | apply Kd.R_drew)); exact Kd.R_mono HO196.out (fun _ hk => ⟨hk.2, hk.1⟩)), (by (with_reducible repeat (first | apply Kd.R_alloc | apply Kd.R_drewN | apply Kd.R_drew)); exact Kd.R_mono HO199.out (fun _ hk => ⟨hk.1.2, hk.2⟩)), (by (with_reducible repeat (first | apply Kd.R_alloc | apply Kd.R_drewN | apply Kd.R_drew)); exact HO202.out), (by repeat (first | (with_reducible first | exact HB.out | apply below_alloc | apply pw_below_drewN | apply below_drew1) | exact HB.out))⟩)
                          · skip
                            rintro ⟨v195, v198⟩ w52 ⟨h0_, h1_, h2_⟩
                            have n0_ : Aside0 (Kd.R (Kd.int .i32) 32 w52 w.heap.size (fun k_ => some k_ ≠ (v198 : Value).ownBlock) v195 y194) := ⟨h0_⟩
                            have n1_ : Aside0 (Kd.R (Kd.int .i32) 32 w52 w.heap.size (fun k_ => some k_ ≠ (v195 : Value).ownBlock) v198 y197) := ⟨h1_⟩
                            have n2_ : Aside0 (Below w.heap.size w w52) := ⟨h2_⟩
                            clear HB
                            clear h0_ h1_ h2_
                            have HO196 := n0_
                            have HO199 := n1_
                            have HB := n2_
                            clear n0_ n1_ n2_
                            have hHeld := trivial
                            refine norm_ (a' := ?_) ?_ ?_
                            rotate_left
                            · simp only [putAll, Act.put, List.setIfInBounds_toArray, List.set_cons_zero, List.set_cons_succ]
                              rfl
                            refine one_ (i := 3) (N := some 86) #[true, true, true, true, true, true, false] rfl rfl (by kernel_rfl) (by decide) (fun K hK => ?_)
                            refine Kd.R_lit_step (Kd.int .i32) _ 32 ?hg (N := 86) ?hd (xs := ([] : List Int)) (inner := []) (ok := fun _ => True) (okp := fun _ => True) ?hr ?hp (fun _ hk => hk) trivial (Below.refl _ _) (Nat.le_refl _) (by simp) ?_; (case hd => rfl); (case hg => rfl); (case hr => first | (go_simp; done) | (go_simp; rfl)); (case hp => exact (Reps.none _ _))
                            intro v201 w53 ho54 hb hg_ hnew_
                            clear hg_ hnew_
                            (first | rw [← Ny200.out] at ho54 | (simp only [Int.reduceToNat] at ho54; rw [← Ny200.out] at ho54))
                            have n0_ := Aside0.mk (Kd.R_elder' (by (with_reducible repeat (first | apply Kd.R_alloc | apply Kd.R_drewN | apply Kd.R_drew)); exact HO196.out) (Kd.R_base ho54) hb)
                            have n1_ := Aside0.mk (Kd.R_elder' (by (with_reducible repeat (first | apply Kd.R_alloc | apply Kd.R_drewN | apply Kd.R_drew)); exact HO199.out) (Kd.R_base ho54) hb)
                            have n2_ := Aside0.mk (Kd.R_lower (Kd.R_new' (Kd.R_new' ho54 (Kd.R_lt (by (with_reducible repeat (first | apply Kd.R_alloc | apply Kd.R_drewN | apply Kd.R_drew)); exact HO196.out))) (Kd.R_lt (by (with_reducible repeat (first | apply Kd.R_alloc | apply Kd.R_drewN | apply Kd.R_drew)); exact HO199.out))) (below_size (by repeat (first | (with_reducible first | exact HB.out | apply below_alloc | apply pw_below_drewN | apply below_drew1) | exact HB.out))))
                            have n3_ := Aside0.mk (below_step (by repeat (first | (with_reducible first | exact HB.out | apply below_alloc | apply pw_below_drewN | apply below_drew1) | exact HB.out)) hb)
                            clear HO196
                            clear HO199
                            clear HB
                            have HO196 := n0_
                            have HO199 := n1_
                            have HO202 := n2_
                            have HB := n3_
                            clear n0_ n1_ n2_ n3_
                            clear hb ho54
                            refine hK.out _ _ trivial (fun hHeld => ?_)
                            clear hK K
                            refine norm_ (a' := ?_) ?_ ?_
                            rotate_left
                            · show Act.put _ (some 86) _ = _
                              simp only [Act.put, List.setIfInBounds_toArray, List.set_cons_zero, List.set_cons_succ, i64_w, i32_w]
                              rfl
                            exact norm_ (by first | (simp only [putAll, Act.put, List.setIfInBounds_toArray, List.set_cons_zero, List.set_cons_succ]; done) | (simp only [putAll, Act.put, List.setIfInBounds_toArray, List.set_cons_zero, List.set_cons_succ]; rfl)) (hJ0_2_3 (v195, v198, v201) _ ⟨(by (with_reducible repeat (first | apply Kd.R_alloc | apply Kd.R_drewN | apply Kd.R_drew)); exact HO196.out), (by (with_reducible repeat (first | apply Kd.R_alloc | apply Kd.R_drewN | apply Kd.R_drew)); exact HO199.out), (by (with_reducible repeat (first | apply Kd.R_alloc | apply Kd.R_drewN | apply Kd.R_drew)); exact Kd.R_mono HO202.out (fun _ hk => ⟨hk.1.2, hk.2⟩)), (by repeat (first | (with_reducible first | exact HB.out | apply below_alloc | apply pw_below_drewN | apply below_drew1) | exact HB.out))⟩)
                        rintro ⟨v195, v198, v201⟩ w54 ⟨h0_, h1_, h2_, h3_⟩
                        have n0_ : Aside0 (Kd.R (Kd.int .i32) 32 w54 w.heap.size (fun k_ => some k_ ≠ (v198 : Value).ownBlock ∧ some k_ ≠ (v201 : Value).ownBlock) v195 y194) := ⟨h0_⟩
                        have n1_ : Aside0 (Kd.R (Kd.int .i32) 32 w54 w.heap.size (fun k_ => some k_ ≠ (v195 : Value).ownBlock ∧ some k_ ≠ (v201 : Value).ownBlock) v198 y197) := ⟨h1_⟩
                        have n2_ : Aside0 (Kd.R (Kd.int .i32) 32 w54 w.heap.size (fun k_ => some k_ ≠ (v195 : Value).ownBlock ∧ some k_ ≠ (v198 : Value).ownBlock) v201 y200) := ⟨h2_⟩
                        have n3_ : Aside0 (Below w.heap.size w w54) := ⟨h3_⟩
                        clear HB
                        clear h0_ h1_ h2_ h3_
                        have HO196 := n0_
                        have HO199 := n1_
                        have HO202 := n2_
                        have HB := n3_
                        clear n0_ n1_ n2_ n3_
                        have hHeld := trivial
                        refine norm_ (a' := ?_) ?_ ?_
                        rotate_left
                        · simp only [putAll, Act.put, List.setIfInBounds_toArray, List.set_cons_zero, List.set_cons_succ]
                          rfl
                        refine pure_ (i := 6) (N := some 15) (v := ?_) (a' := ?_) #[true, true, true, true, true, true, true] rfl rfl (by kernel_rfl) (fun _ _ _ h => h) (Or.inl ⟨by rfl, ?_⟩) ?_ ?_
                        rotate_left
                        · intro w'
                          go_simp
                          with_reducible rfl
                        rotate_left
                        · simp only [Act.put, List.setIfInBounds_toArray, List.set_cons_zero, List.set_cons_succ, i64_w, i32_w]
                          rfl
                        refine done_ (by kernel_rfl) ?_
                        try go_wp2
                        go_loopg [13, 15, 16] kj39 (fun kq v13 v15 v16 w' => ∃ (x13_4 : List Int) (x15_4 : List Int) (x16_4 : Int), v16 = .int .i64 x16_4 ∧ Aside0 (tillerlaw05_SoftAlone.l1 kq a0 a1 x13_4 y197 x15_4 x16_4 = some r) ∧ Aside0 (kq ≤ kj39) ∧ Aside0 (Kd.R (Kd.int .i32) 32 w' w.heap.size (fun k_ => some k_ ≠ (v198 : Value).ownBlock ∧ some k_ ≠ (v15 : Value).ownBlock) v13 x13_4) ∧ Aside0 (Kd.R (Kd.int .i32) 32 w' w.heap.size (fun k_ => some k_ ≠ (v13 : Value).ownBlock ∧ some k_ ≠ (v15 : Value).ownBlock) v198 y197) ∧ Aside0 (Kd.R (Kd.int .i32) 32 w' w.heap.size (fun k_ => some k_ ≠ (v13 : Value).ownBlock ∧ some k_ ≠ (v198 : Value).ownBlock) v15 x15_4) ∧ Aside0 (Below w.heap.size w w'))
                        case atStart => exact ⟨(y194), (y200), (0), (by first | rfl | (simp; done) | (simp [*]; done)), H', ⟨Nat.le_refl _⟩, ⟨by (with_reducible repeat (first | apply Kd.R_alloc | apply Kd.R_drewN | apply Kd.R_drew)); exact HO196.out⟩, ⟨by (with_reducible repeat (first | apply Kd.R_alloc | apply Kd.R_drewN | apply Kd.R_drew)); exact HO199.out⟩, ⟨by (with_reducible repeat (first | apply Kd.R_alloc | apply Kd.R_drewN | apply Kd.R_drew)); exact HO202.out⟩, ⟨by repeat (first | (with_reducible first | exact HB.out | apply below_alloc | apply pw_below_drewN | apply below_drew1) | exact HB.out)⟩⟩
                        case round =>
                          clear H'
                          try clear c1
                          try clear p1
                          try clear q1
                          try clear hx1
                          try clear qi1
                          try clear c2
                          try clear p2
                          try clear c3
                          try clear c4
                          try clear c13
                          try clear p19
                          try clear q19
                          try clear hx19
                          try clear qi19
                          try clear c21
                          try clear c21b0
                          try clear c21b1
                          try clear c22
                          try clear c22b0
                          try clear c22b1
                          try clear c23
                          try clear c23b0
                          try clear c23b1
                          try clear c24
                          try clear c24b0
                          try clear c24b1
                          try clear c25
                          try clear c25b0
                          try clear c25b1
                          try clear c31
                          try clear c32
                          try clear c32b0
                          try clear c33
                          try clear c33b0
                          try clear c34
                          try clear c34b0
                          try clear c35
                          try clear c35b0
                          try clear c37
                          try clear c37b0
                          try clear c37b1
                          try clear c41
                          try clear c41b0
                          try clear c42
                          try clear c45
                          try clear c45b0
                          try clear c45b1
                          try clear c46
                          try clear c46b0
                          try clear c46b1
                          try clear hx190_0
                          try clear hx191_0
                          try clear hx192_0
                          try clear p1
                          try clear p19
                          try clear p190
                          try clear p191
                          try clear p192
                          try clear p2
                          try clear q1
                          try clear q19
                          try clear q190
                          try clear q191
                          try clear q192
                          obtain ⟨x13_4, x15_4, x16_4, rfl, HA, HK4, HO_13, HO_14, HO_15, HB⟩ := hrel
                          cases gk with
                          | zero => exact absurd HA.out (by simp [tillerlaw05_SoftAlone.l1])
                          | succ k4 =>
                            have H := HA.out
                            clear HA
                            simp only [tillerlaw05_SoftAlone.l1] at H
                            by_cases c55 : x16_4 < a1
                            · rw [if_pos c55] at H
                              have c55b0 : decide (x16_4 < a1) = true := decide_eq_true c55
                              clear c55
                              by_cases c56 : x13_4.length < 35184372088832
                              · rw [if_pos c56] at H
                                have LMc56 := Aside0.mk c56
                                clear c56
                                obtain ⟨y203, hy203⟩ : ∃ y_ : List Int, y_ = (x13_4 ++ [a0]) := ⟨_, rfl⟩
                                replace H : (if x15_4.length < 35184372088832 then (tillerlaw05_SoftAlone.l1 k4 a0 a1 y203 y197 (x15_4 ++ [a0]) (wrap64 (x16_4 + 1))) else (none)) = some r := by first | (rw [hy203]; with_reducible exact H) | (have H2_ := (Option.bind_some _ _).symm.trans H; rw [hy203]; with_reducible exact H2_) | (have H2_ := (Option.bind_some _ _).symm.trans H; with_reducible exact H2_) | with_reducible exact H | (rw [hy203]; exact H) | exact H
                                have Ny203 := Aside0.mk hy203
                                clear hy203
                                by_cases c57 : x15_4.length < 35184372088832
                                · rw [if_pos c57] at H
                                  have LMc57 := Aside0.mk c57
                                  clear c57
                                  obtain ⟨y206, hy206⟩ : ∃ y_ : List Int, y_ = (x15_4 ++ [a0]) := ⟨_, rfl⟩
                                  replace H : (tillerlaw05_SoftAlone.l1 k4 a0 a1 y203 y197 y206 (wrap64 (x16_4 + 1))) = some r := by first | (rw [hy206]; with_reducible exact H) | (have H2_ := (Option.bind_some _ _).symm.trans H; rw [hy206]; with_reducible exact H2_) | (have H2_ := (Option.bind_some _ _).symm.trans H; with_reducible exact H2_) | with_reducible exact H | (rw [hy206]; exact H) | exact H
                                  have Ny206 := Aside0.mk hy206
                                  clear hy206
                                  have H' := Aside0.mk H
                                  clear H
                                  go_wp2_with (first | ((with_reducible refine gate_builtin (b := .append) (xs := #[.tmp 92, .tmp 94]) rfl ?_); (try (refine gate_guard (by rfl) ?_; dsimp only)); at_builtin; refine Kd.R_append (Kd.int .i32) (w0 := w) w.heap.size rfl (.tmp 92) (.tmp 94) 22 32 (.int .i32 0) 4 rfl Try.underlying22 info32 rfl (by decide) (by omega) u13 x13_4 a0 [.int .i32 a0] (fun k_ => some k_ ≠ (v198 : Value).ownBlock ∧ some k_ ≠ (u15 : Value).ownBlock) (fun _ => False) rfl rfl ?aP (fun _ hk => hk.elim) ?aF ?aO ?aB ?aS ?aL ?_; (case aP => exact rfl); (case aB => exact (by repeat (first | (with_reducible first | exact HB.out | apply below_alloc | apply pw_below_drewN | apply below_drew1) | exact HB.out))); (case aF => exact (fun k_ hk => ⟨Kd.fresh' (Kd.R_lt (by (with_reducible repeat (first | apply Kd.R_alloc | apply Kd.R_drewN | apply Kd.R_drew)); exact HO_14.out)) k_ hk, Kd.fresh' (Kd.R_lt (by (with_reducible repeat (first | apply Kd.R_alloc | apply Kd.R_drewN | apply Kd.R_drew)); exact HO_15.out)) k_ hk⟩)); (case aO => exact (by (with_reducible repeat (first | apply Kd.R_alloc | apply Kd.R_drewN | apply Kd.R_drew)); exact HO_13.out)); (case aS => exact (below_size (by repeat (first | (with_reducible first | exact HB.out | apply below_alloc | apply pw_below_drewN | apply below_drew1) | exact HB.out)))); (case aL => have := LMc56.out; omega); intro v204 w58 ho hb hg hat; rw [← Ny203.out] at ho; have n0_ := Aside0.mk (Kd.R_after (ok := (fun k_ => some k_ ≠ (u15 : Value).ownBlock)) (by (with_reducible repeat (first | apply Kd.R_alloc | apply Kd.R_drewN | apply Kd.R_drew)); exact Kd.R_mono HO_14.out (fun _ hk => ⟨hk.2, hk.1⟩)) hg hat); have n1_ := Aside0.mk (Kd.R_after (ok := (fun k_ => some k_ ≠ (v198 : Value).ownBlock)) (by (with_reducible repeat (first | apply Kd.R_alloc | apply Kd.R_drewN | apply Kd.R_drew)); exact Kd.R_mono HO_15.out (fun _ hk => ⟨hk.2, hk.1⟩)) hg hat); have n2_ := Aside0.mk (hb); have n3_ := Aside0.mk (ho); clear HO_14; clear HO_15; clear HB; clear HO_13; have HO_14 := n0_; have HO_15 := n1_; have HB := n2_; have HO205 := n3_; clear n0_ n1_ n2_ n3_; clear ho hb hg hat) | ((with_reducible refine gate_builtin (b := .append) (xs := #[.tmp 96, .tmp 98]) rfl ?_); (try (refine gate_guard (by rfl) ?_; dsimp only)); at_builtin; refine Kd.R_append (Kd.int .i32) (w0 := w) w.heap.size rfl (.tmp 96) (.tmp 98) 22 32 (.int .i32 0) 4 rfl Try.underlying22 info32 rfl (by decide) (by omega) u15 x15_4 a0 [.int .i32 a0] (fun k_ => some k_ ≠ (v198 : Value).ownBlock ∧ some k_ ≠ (v204 : Value).ownBlock) (fun _ => False) rfl rfl ?aP (fun _ hk => hk.elim) ?aF ?aO ?aB ?aS ?aL ?_; (case aP => exact rfl); (case aB => exact (by repeat (first | (with_reducible first | exact HB.out | apply below_alloc | apply pw_below_drewN | apply below_drew1) | exact HB.out))); (case aF => exact (fun k_ hk => ⟨Kd.fresh' (Kd.R_lt (by (with_reducible repeat (first | apply Kd.R_alloc | apply Kd.R_drewN | apply Kd.R_drew)); exact HO_14.out)) k_ hk, Kd.fresh' (Kd.R_lt (by (with_reducible repeat (first | apply Kd.R_alloc | apply Kd.R_drewN | apply Kd.R_drew)); exact HO205.out)) k_ hk⟩)); (case aO => exact (by (with_reducible repeat (first | apply Kd.R_alloc | apply Kd.R_drewN | apply Kd.R_drew)); exact HO_15.out)); (case aS => exact (below_size (by repeat (first | (with_reducible first | exact HB.out | apply below_alloc | apply pw_below_drewN | apply below_drew1) | exact HB.out)))); (case aL => have := LMc57.out; omega); intro v207 w59 ho hb hg hat; rw [← Ny206.out] at ho; have n0_ := Aside0.mk (Kd.R_after (ok := (fun k_ => some k_ ≠ (v204 : Value).ownBlock)) (by (with_reducible repeat (first | apply Kd.R_alloc | apply Kd.R_drewN | apply Kd.R_drew)); exact Kd.R_mono HO_14.out (fun _ hk => ⟨hk.2, hk.1⟩)) hg hat); have n1_ := Aside0.mk (Kd.R_after (ok := (fun k_ => some k_ ≠ (v198 : Value).ownBlock)) (by (with_reducible repeat (first | apply Kd.R_alloc | apply Kd.R_drewN | apply Kd.R_drew)); exact HO205.out) hg hat); have n2_ := Aside0.mk (hb); have n3_ := Aside0.mk (ho); clear HO_14; clear HO205; clear HB; clear HO_15; have HO_14 := n0_; have HO205 := n1_; have HB := n2_; have HO208 := n3_; clear n0_ n1_ n2_ n3_; clear ho hb hg hat))
                                  go_roundg k4
                                  case measure => have := HJ6.out; have := HK2.out; have := HJ39.out; have := HK4.out; omega
                                  case rel => exact ⟨(y203), (y206), (wrap64 (x16_4 + 1)), (by first | rfl | (simp; done) | (simp [*]; done)), H', ⟨by have := HJ6.out; have := HK2.out; have := HJ39.out; have := HK4.out; omega⟩, ⟨by (with_reducible repeat (first | apply Kd.R_alloc | apply Kd.R_drewN | apply Kd.R_drew)); exact HO205.out⟩, ⟨by (with_reducible repeat (first | apply Kd.R_alloc | apply Kd.R_drewN | apply Kd.R_drew)); exact HO_14.out⟩, ⟨by (with_reducible repeat (first | apply Kd.R_alloc | apply Kd.R_drewN | apply Kd.R_drew)); exact Kd.R_mono HO208.out (fun _ hk => ⟨hk.2, hk.1⟩)⟩, ⟨by repeat (first | (with_reducible first | exact HB.out | apply below_alloc | apply pw_below_drewN | apply below_drew1) | exact HB.out)⟩⟩
                                · rw [if_neg c57] at H
                                  exact absurd H (by simp)
                              · rw [if_neg c56] at H
                                exact absurd H (by simp)
                            · rw [if_neg c55] at H
                              have c55b0 : decide (x16_4 < a1) = false := decide_eq_false c55
                              clear c55
                              replace H := Option.bind_eq_some_iff.mp H
                              obtain ⟨⟨t209, t210⟩, A600, H⟩ := H
                              replace H : ((soft_Norm.f k4 y197 x15_4).bind fun bt213 => (if t210 = 0 then (if bt213.2 = 0 then (if (t209.length : Int) = a1 then (tillerlaw05_SoftAlone.j4 k4 a1 t209 bt213.1 ((bt213.1.length : Int) != a1)) else (tillerlaw05_SoftAlone.j4 k4 a1 t209 bt213.1 true)) else (tillerlaw05_SoftAlone.j4 k4 a1 t209 bt213.1 true)) else (tillerlaw05_SoftAlone.j4 k4 a1 t209 bt213.1 true))) = some r := H
                              have A60 := Aside0.mk A600
                              clear A600
                              replace H := Option.bind_eq_some_iff.mp H
                              obtain ⟨⟨t213, t214⟩, A610, H⟩ := H
                              replace H : (if t210 = 0 then (if t214 = 0 then (if (t209.length : Int) = a1 then (tillerlaw05_SoftAlone.j4 k4 a1 t209 t213 ((t213.length : Int) != a1)) else (tillerlaw05_SoftAlone.j4 k4 a1 t209 t213 true)) else (tillerlaw05_SoftAlone.j4 k4 a1 t209 t213 true)) else (tillerlaw05_SoftAlone.j4 k4 a1 t209 t213 true)) = some r := H
                              have A61 := Aside0.mk A610
                              clear A610
                              have HC62 := Aside0.mk H
                              clear H
                              obtain ⟨Ao63, co63, eo63⟩ := Kd.R_slice HO_13.out
                              subst eo63
                              go_upto_region 22 with (first | ((with_reducible refine gate_callee (f := 11) rfl ?_); refine goesL_ (some 102) rfl rfl Try.func11 (by kernel_rfl) rfl #[.slice Ao63 x13_4.length co63] rfl (by (try simp only [List.map_toArray, List.map_cons, List.map_nil]); first | done | rfl | (simp only [List.length_drop, List.length_take]; rfl)) ?_; (with_reducible refine (soft_Weights.calls k4 _ _ x13_4 t209 t210 _ ?side1 ?side2 A60.out).mono ?_); (case side1 => repeat (first | exact (Kd.R_reads' HO_13.out).2.2 | (with_reducible refine Kd.C_alloc ?_ _) | (with_reducible refine Kd.C_drewN ?_ _) | (with_reducible refine Kd.C_drew ?_))); (case side2 => exact (Kd.R_reads' HO_13.out).2.1); rintro e w64 ⟨v211, rfl, ho0, hb⟩; refine ⟨_, rfl, ?_⟩; have n0_ := Aside0.mk (Kd.R_elder' (by (with_reducible repeat (first | apply Kd.R_alloc | apply Kd.R_drewN | apply Kd.R_drew)); exact HO_13.out) (Kd.R_base ho0) hb); have n1_ := Aside0.mk (Kd.R_elder' (by (with_reducible repeat (first | apply Kd.R_alloc | apply Kd.R_drewN | apply Kd.R_drew)); exact HO_14.out) (Kd.R_base ho0) hb); have n2_ := Aside0.mk (Kd.R_elder' (by (with_reducible repeat (first | apply Kd.R_alloc | apply Kd.R_drewN | apply Kd.R_drew)); exact HO_15.out) (Kd.R_base ho0) hb); have n3_ := Aside0.mk (Kd.R_lower (Kd.R_new' (Kd.R_new' (Kd.R_new' ho0 (Kd.R_lt (by (with_reducible repeat (first | apply Kd.R_alloc | apply Kd.R_drewN | apply Kd.R_drew)); exact HO_13.out))) (Kd.R_lt (by (with_reducible repeat (first | apply Kd.R_alloc | apply Kd.R_drewN | apply Kd.R_drew)); exact HO_14.out))) (Kd.R_lt (by (with_reducible repeat (first | apply Kd.R_alloc | apply Kd.R_drewN | apply Kd.R_drew)); exact HO_15.out))) (below_size (by repeat (first | (with_reducible first | exact HB.out | apply below_alloc | apply pw_below_drewN | apply below_drew1) | exact HB.out)))); have n4_ := Aside0.mk (below_step (by repeat (first | (with_reducible first | exact HB.out | apply below_alloc | apply pw_below_drewN | apply below_drew1) | exact HB.out)) hb); clear HO_13; clear HO_14; clear HO_15; clear HB; have HO_13 := n0_; have HO_14 := n1_; have HO_15 := n2_; have HO212 := n3_; have HB := n4_; clear n0_ n1_ n2_ n3_ n4_; (try clear hb); (try clear hb2); (try clear hk); (try clear hi); (try clear ho0); obtain ⟨Ao65, co65, eo65⟩ := Kd.R_slice HO_14.out; subst eo65; obtain ⟨Ao66, co66, eo66⟩ := Kd.R_slice HO_15.out; subst eo66) | ((with_reducible refine gate_callee (f := 21) rfl ?_); refine goesL_ (some 108) rfl rfl Try.func21 (by kernel_rfl) rfl #[.slice Ao65 y197.length co65, .slice Ao66 x15_4.length co66] rfl (by (try simp only [List.map_toArray, List.map_cons, List.map_nil]); first | done | rfl | (simp only [List.length_drop, List.length_take]; rfl)) ?_; (with_reducible refine (soft_Norm.calls k4 _ _ y197 _ _ x15_4 t213 t214 _ ?side1 ?side2 ?side3 ?side4 A61.out).mono ?_); (case side1 => repeat (first | exact (Kd.R_reads' HO_14.out).2.2 | (with_reducible refine Kd.C_alloc ?_ _) | (with_reducible refine Kd.C_drewN ?_ _) | (with_reducible refine Kd.C_drew ?_))); (case side2 => exact (Kd.R_reads' HO_14.out).2.1); (case side3 => repeat (first | exact (Kd.R_reads' HO_15.out).2.2 | (with_reducible refine Kd.C_alloc ?_ _) | (with_reducible refine Kd.C_drewN ?_ _) | (with_reducible refine Kd.C_drew ?_))); (case side4 => exact (Kd.R_reads' HO_15.out).2.1); rintro e w67 ⟨v215, rfl, ho0, hb⟩; refine ⟨_, rfl, ?_⟩; have n0_ := Aside0.mk (Kd.R_elder' (by (with_reducible repeat (first | apply Kd.R_alloc | apply Kd.R_drewN | apply Kd.R_drew)); exact HO_13.out) (Kd.R_base ho0) hb); have n1_ := Aside0.mk (Kd.R_elder' (by (with_reducible repeat (first | apply Kd.R_alloc | apply Kd.R_drewN | apply Kd.R_drew)); exact HO_14.out) (Kd.R_base ho0) hb); have n2_ := Aside0.mk (Kd.R_elder' (by (with_reducible repeat (first | apply Kd.R_alloc | apply Kd.R_drewN | apply Kd.R_drew)); exact HO_15.out) (Kd.R_base ho0) hb); have n3_ := Aside0.mk (Kd.R_elder' (by (with_reducible repeat (first | apply Kd.R_alloc | apply Kd.R_drewN | apply Kd.R_drew)); exact HO212.out) (Kd.R_base ho0) hb); have n4_ := Aside0.mk (Kd.R_lower (Kd.R_new' (Kd.R_new' (Kd.R_new' (Kd.R_new' ho0 (Kd.R_lt (by (with_reducible repeat (first | apply Kd.R_alloc | apply Kd.R_drewN | apply Kd.R_drew)); exact HO_13.out))) (Kd.R_lt (by (with_reducible repeat (first | apply Kd.R_alloc | apply Kd.R_drewN | apply Kd.R_drew)); exact HO_14.out))) (Kd.R_lt (by (with_reducible repeat (first | apply Kd.R_alloc | apply Kd.R_drewN | apply Kd.R_drew)); exact HO_15.out))) (Kd.R_lt (by (with_reducible repeat (first | apply Kd.R_alloc | apply Kd.R_drewN | apply Kd.R_drew)); exact HO212.out))) (below_size (by repeat (first | (with_reducible first | exact HB.out | apply below_alloc | apply pw_below_drewN | apply below_drew1) | exact HB.out)))); have n5_ := Aside0.mk (below_step (by repeat (first | (with_reducible first | exact HB.out | apply below_alloc | apply pw_below_drewN | apply below_drew1) | exact HB.out)) hb); clear HO_13; clear HO_14; clear HO_15; clear HO212; clear HB; have HO_13 := n0_; have HO_14 := n1_; have HO_15 := n2_; have HO212 := n3_; have HO216 := n4_; have HB := n5_; clear n0_ n1_ n2_ n3_ n4_ n5_; (try clear hb); (try clear hb2); (try clear hk); (try clear hi); (try clear ho0)))
                              (try simp only [Act.put, List.setIfInBounds_toArray, List.set_cons_zero, List.set_cons_succ])
                              go_cut [128] (fun v128 wc => ∃ (kq : Nat) (x128_61 : Bool), v128 = .bool x128_61 ∧ Aside0 (tillerlaw05_SoftAlone.j4 kq a1 t209 t213 x128_61 = some r) ∧ Aside0 (kq ≤ k4) ∧ Aside0 (Kd.R (Kd.int .i32) 32 wc w.heap.size (fun k_ => some k_ ≠ (v215 : Value).ownBlock) v211 t209) ∧ Aside0 (Kd.R (Kd.int .i32) 32 wc w.heap.size (fun k_ => some k_ ≠ (v211 : Value).ownBlock) v215 t213) ∧ Aside0 (Below w.heap.size w wc))
                              case first =>
                                have H := HC62.out
                                clear HC62
                                by_cases c68 : t210 = 0
                                · rw [if_pos c68] at H
                                  have c68b0 : (t210 == 0) = true := beq_iff_eq.mpr c68
                                  have c68b1 : (t210 != 0) = false := bne_eq_false_iff_eq.mpr c68
                                  clear c68
                                  (first | rw [c68b0] | (simp only [i64_w, i32_w]; rw [c68b0]) | skip)
                                  by_cases c69 : t214 = 0
                                  · rw [if_pos c69] at H
                                    have c69b0 : (t214 == 0) = true := beq_iff_eq.mpr c69
                                    have c69b1 : (t214 != 0) = false := bne_eq_false_iff_eq.mpr c69
                                    clear c69
                                    by_cases c70 : (t209.length : Int) = a1
                                    · rw [if_pos c70] at H
                                      have c70b0 : ((t209.length : Int) == a1) = true := beq_iff_eq.mpr c70
                                      have c70b1 : ((t209.length : Int) != a1) = false := bne_eq_false_iff_eq.mpr c70
                                      clear c70
                                      have H' := Aside0.mk H
                                      clear H
                                      obtain ⟨Ao71, co71, eo71⟩ := Kd.R_slice HO212.out
                                      subst eo71
                                      obtain ⟨Ao72, co72, eo72⟩ := Kd.R_slice HO216.out
                                      subst eo72
                                      go_wp2
                                      go_meet
                                      case rel => exact ⟨_, (((t213.length : Int) != a1)), (by first | rfl | (simp; done) | (simp [*]; done)), H', ⟨by have := HJ6.out; have := HK2.out; have := HJ39.out; have := HK4.out; first | omega | exact Nat.le_refl _⟩, ⟨by (with_reducible repeat (first | apply Kd.R_alloc | apply Kd.R_drewN | apply Kd.R_drew)); exact Kd.R_mono HO212.out (fun _ hk => hk.2)⟩, ⟨by (with_reducible repeat (first | apply Kd.R_alloc | apply Kd.R_drewN | apply Kd.R_drew)); exact Kd.R_mono HO216.out (fun _ hk => hk.2)⟩, ⟨by repeat (first | (with_reducible first | exact HB.out | apply below_alloc | apply pw_below_drewN | apply below_drew1) | exact HB.out)⟩⟩
                                    · rw [if_neg c70] at H
                                      have c70b0 : ((t209.length : Int) == a1) = false := beq_eq_false_iff_ne.mpr c70
                                      have c70b1 : ((t209.length : Int) != a1) = true := bne_iff_ne.mpr c70
                                      have H' := Aside0.mk H
                                      clear H
                                      obtain ⟨Ao73, co73, eo73⟩ := Kd.R_slice HO212.out
                                      subst eo73
                                      go_wp2
                                      go_meet
                                      case rel => exact ⟨_, (true), (by first | rfl | (simp; done) | (simp [*]; done)), H', ⟨by have := HJ6.out; have := HK2.out; have := HJ39.out; have := HK4.out; first | omega | exact Nat.le_refl _⟩, ⟨by (with_reducible repeat (first | apply Kd.R_alloc | apply Kd.R_drewN | apply Kd.R_drew)); exact Kd.R_mono HO212.out (fun _ hk => hk.2)⟩, ⟨by (with_reducible repeat (first | apply Kd.R_alloc | apply Kd.R_drewN | apply Kd.R_drew)); exact Kd.R_mono HO216.out (fun _ hk => hk.2)⟩, ⟨by repeat (first | (with_reducible first | exact HB.out | apply below_alloc | apply pw_below_drewN | apply below_drew1) | exact HB.out)⟩⟩
                                  · rw [if_neg c69] at H
                                    have c69b0 : (t214 == 0) = false := beq_eq_false_iff_ne.mpr c69
                                    have c69b1 : (t214 != 0) = true := bne_iff_ne.mpr c69
                                    have H' := Aside0.mk H
                                    clear H
                                    go_wp2
                                    go_meet
                                    case rel => exact ⟨_, (true), (by first | rfl | (simp; done) | (simp [*]; done)), H', ⟨by have := HJ6.out; have := HK2.out; have := HJ39.out; have := HK4.out; first | omega | exact Nat.le_refl _⟩, ⟨by (with_reducible repeat (first | apply Kd.R_alloc | apply Kd.R_drewN | apply Kd.R_drew)); exact Kd.R_mono HO212.out (fun _ hk => hk.2)⟩, ⟨by (with_reducible repeat (first | apply Kd.R_alloc | apply Kd.R_drewN | apply Kd.R_drew)); exact Kd.R_mono HO216.out (fun _ hk => hk.2)⟩, ⟨by repeat (first | (with_reducible first | exact HB.out | apply below_alloc | apply pw_below_drewN | apply below_drew1) | exact HB.out)⟩⟩
                                · rw [if_neg c68] at H
                                  have c68b0 : (t210 == 0) = false := beq_eq_false_iff_ne.mpr c68
                                  have c68b1 : (t210 != 0) = true := bne_iff_ne.mpr c68
                                  (first | rw [c68b0] | (simp only [i64_w, i32_w]; rw [c68b0]) | skip)
                                  have H' := Aside0.mk H
                                  clear H
                                  go_wp2
                                  go_meet
                                  case rel => exact ⟨_, (true), (by first | rfl | (simp; done) | (simp [*]; done)), H', ⟨by have := HJ6.out; have := HK2.out; have := HJ39.out; have := HK4.out; first | omega | exact Nat.le_refl _⟩, ⟨by (with_reducible repeat (first | apply Kd.R_alloc | apply Kd.R_drewN | apply Kd.R_drew)); exact Kd.R_mono HO212.out (fun _ hk => hk.2)⟩, ⟨by (with_reducible repeat (first | apply Kd.R_alloc | apply Kd.R_drewN | apply Kd.R_drew)); exact Kd.R_mono HO216.out (fun _ hk => hk.2)⟩, ⟨by repeat (first | (with_reducible first | exact HB.out | apply below_alloc | apply pw_below_drewN | apply below_drew1) | exact HB.out)⟩⟩
                              case rest =>
                                clear HC62
                                try clear c1
                                try clear p1
                                try clear q1
                                try clear hx1
                                try clear qi1
                                try clear c2
                                try clear p2
                                try clear c3
                                try clear c4
                                try clear c5
                                try clear c6
                                try clear p6
                                try clear c7
                                try clear c11
                                try clear c13
                                try clear p19
                                try clear q19
                                try clear hx19
                                try clear qi19
                                try clear c21
                                try clear c21b0
                                try clear c21b1
                                try clear c22
                                try clear c22b0
                                try clear c22b1
                                try clear c23
                                try clear c23b0
                                try clear c23b1
                                try clear c24
                                try clear c24b0
                                try clear c24b1
                                try clear c25
                                try clear c25b0
                                try clear c25b1
                                try clear c31
                                try clear c32
                                try clear c32b0
                                try clear c33
                                try clear c33b0
                                try clear c34
                                try clear c34b0
                                try clear c35
                                try clear c35b0
                                try clear c37
                                try clear c37b0
                                try clear c37b1
                                try clear c41
                                try clear c41b0
                                try clear c42
                                try clear c45
                                try clear c45b0
                                try clear c45b1
                                try clear c46
                                try clear c46b0
                                try clear c46b1
                                try clear c55
                                try clear c55b0
                                try clear c56
                                try clear c57
                                try clear p64
                                try clear c68
                                try clear c68b0
                                try clear c68b1
                                try clear c69
                                try clear c69b0
                                try clear c69b1
                                try clear c70
                                try clear c70b0
                                try clear c70b1
                                try clear hx190_0
                                try clear hx191_0
                                try clear hx192_0
                                try clear p1
                                try clear p19
                                try clear p190
                                try clear p191
                                try clear p192
                                try clear p2
                                try clear q1
                                try clear q19
                                try clear q190
                                try clear q191
                                try clear q192
                                obtain ⟨kq, x128_61, rfl, HA, HJ61, HO_17, HO_19, HB⟩ := hcut
                                cases kq with
                                | zero => exact absurd HA.out (by simp [tillerlaw05_SoftAlone.j4])
                                | succ kj61 =>
                                  have H := HA.out
                                  clear HA
                                  simp only [tillerlaw05_SoftAlone.j4] at H
                                  by_cases c74 : x128_61 = true
                                  · subst c74
                                    have H1 : (some false) = some r := by rw [if_pos rfl] at H; exact H
                                    clear H
                                    have H := H1
                                    clear H1
                                    obtain rfl := Option.some.inj H
                                    go_wp2
                                    go_ret
                                    exact ⟨by first | rfl | (simp [errW_none, errW_some] <;> rfl) | (simp [*, errW_none, errW_some] <;> rfl), by repeat (first | (with_reducible first | exact HB.out | apply below_alloc | apply pw_below_drewN | apply below_drew1) | exact HB.out)⟩
                                  · replace c74 := Bool.eq_false_iff.mpr c74
                                    subst c74
                                    have H1 : (tillerlaw05_SoftAlone.l2 kj61 a1 t209 t213 0) = some r := by rw [if_neg (show ¬ (false = true) by decide)] at H; exact H
                                    clear H
                                    have H := H1
                                    clear H1
                                    have H' := Aside0.mk H
                                    clear H
                                    go_wp2
                                    go_loopg [21] kj61 (fun kq v21 w' => ∃ (x21_6 : Int), v21 = .int .i64 x21_6 ∧ Aside0 (tillerlaw05_SoftAlone.l2 kq a1 t209 t213 x21_6 = some r) ∧ Aside0 (kq ≤ kj61) ∧ Aside0 (Kd.R (Kd.int .i32) 32 w' w.heap.size (fun k_ => some k_ ≠ (v215 : Value).ownBlock) v211 t209) ∧ Aside0 (Kd.R (Kd.int .i32) 32 w' w.heap.size (fun k_ => some k_ ≠ (v211 : Value).ownBlock) v215 t213) ∧ Aside0 (Below w.heap.size w w'))
                                    case atStart => exact ⟨(0), (by first | rfl | (simp; done) | (simp [*]; done)), H', ⟨Nat.le_refl _⟩, ⟨by (with_reducible repeat (first | apply Kd.R_alloc | apply Kd.R_drewN | apply Kd.R_drew)); exact HO_17.out⟩, ⟨by (with_reducible repeat (first | apply Kd.R_alloc | apply Kd.R_drewN | apply Kd.R_drew)); exact HO_19.out⟩, ⟨by repeat (first | (with_reducible first | exact HB.out | apply below_alloc | apply pw_below_drewN | apply below_drew1) | exact HB.out)⟩⟩
                                    case round =>
                                      clear H'
                                      try clear c1
                                      try clear p1
                                      try clear q1
                                      try clear hx1
                                      try clear qi1
                                      try clear c2
                                      try clear p2
                                      try clear c3
                                      try clear c4
                                      try clear c5
                                      try clear c6
                                      try clear p6
                                      try clear c7
                                      try clear c11
                                      try clear c13
                                      try clear p19
                                      try clear q19
                                      try clear hx19
                                      try clear qi19
                                      try clear c21
                                      try clear c21b0
                                      try clear c21b1
                                      try clear c22
                                      try clear c22b0
                                      try clear c22b1
                                      try clear c23
                                      try clear c23b0
                                      try clear c23b1
                                      try clear c24
                                      try clear c24b0
                                      try clear c24b1
                                      try clear c25
                                      try clear c25b0
                                      try clear c25b1
                                      try clear c31
                                      try clear c32
                                      try clear c32b0
                                      try clear c33
                                      try clear c33b0
                                      try clear c34
                                      try clear c34b0
                                      try clear c35
                                      try clear c35b0
                                      try clear c37
                                      try clear c37b0
                                      try clear c37b1
                                      try clear c41
                                      try clear c41b0
                                      try clear c42
                                      try clear c45
                                      try clear c45b0
                                      try clear c45b1
                                      try clear c46
                                      try clear c46b0
                                      try clear c46b1
                                      try clear c55
                                      try clear c55b0
                                      try clear c56
                                      try clear c57
                                      try clear p64
                                      try clear c68
                                      try clear c68b0
                                      try clear c68b1
                                      try clear c69
                                      try clear c69b0
                                      try clear c69b1
                                      try clear c70
                                      try clear c70b0
                                      try clear c70b1
                                      try clear c74
                                      try clear hx190_0
                                      try clear hx191_0
                                      try clear hx192_0
                                      try clear p1
                                      try clear p19
                                      try clear p190
                                      try clear p191
                                      try clear p192
                                      try clear p2
                                      try clear p6
                                      try clear p64
                                      try clear q1
                                      try clear q19
                                      try clear q190
                                      try clear q191
                                      try clear q192
                                      obtain ⟨x21_6, rfl, HA, HK6, HO_17, HO_19, HB⟩ := hrel
                                      cases gk with
                                      | zero => exact absurd HA.out (by simp [tillerlaw05_SoftAlone.l2])
                                      | succ k6 =>
                                        have H := HA.out
                                        clear HA
                                        simp only [tillerlaw05_SoftAlone.l2] at H
                                        by_cases c75 : x21_6 < a1
                                        · rw [if_pos c75] at H
                                          have c75b0 : decide (x21_6 < a1) = true := decide_eq_true c75
                                          clear c75
                                          by_cases c76 : 0 ≤ x21_6
                                          · rw [if_pos c76] at H
                                            have c76b0 : decide (0 ≤ x21_6) = true := decide_eq_true c76
                                            clear c76
                                            by_cases c77 : x21_6 < (t209.length : Int)
                                            · rw [if_pos c77] at H
                                              have c77b0 : decide (x21_6 < (t209.length : Int)) = true := decide_eq_true c77
                                              clear c77
                                              by_cases c78 : a1 = 0
                                              · rw [if_pos c78] at H
                                                exact absurd H (by simp)
                                              · rw [if_neg c78] at H
                                                have c78b0 : (a1 == 0) = false := beq_eq_false_iff_ne.mpr c78
                                                have c78b1 : (a1 != 0) = true := bne_iff_ne.mpr c78
                                                by_cases c79 : (rd t209 x21_6) = (wrap32 (wrap64 (Int.tdiv (65536 : Int) a1)))
                                                · rw [if_pos c79] at H
                                                  have c79b0 : ((rd t209 x21_6) == (wrap32 (wrap64 (Int.tdiv (65536 : Int) a1)))) = true := beq_iff_eq.mpr c79
                                                  have c79b1 : ((rd t209 x21_6) != (wrap32 (wrap64 (Int.tdiv (65536 : Int) a1)))) = false := bne_eq_false_iff_eq.mpr c79
                                                  clear c79
                                                  by_cases c80 : x21_6 < (t213.length : Int)
                                                  · rw [if_pos c80] at H
                                                    have c80b0 : decide (x21_6 < (t213.length : Int)) = true := decide_eq_true c80
                                                    clear c80
                                                    by_cases c81 : (rd t213 x21_6) = 0
                                                    · rw [if_pos c81] at H
                                                      have c81b0 : ((rd t213 x21_6) == 0) = true := beq_iff_eq.mpr c81
                                                      have c81b1 : ((rd t213 x21_6) != 0) = false := bne_eq_false_iff_eq.mpr c81
                                                      clear c81
                                                      have H' := Aside0.mk H
                                                      clear H
                                                      try go_wp2
                                                      have n0_ := Aside0.mk (Kd.R_drew HO_17.out)
                                                      have n1_ := Aside0.mk (Kd.R_drew HO_19.out)
                                                      have n2_ := Aside0.mk (below_drew1 HB.out)
                                                      clear HO_17
                                                      clear HO_19
                                                      clear HB
                                                      have HO_17 := n0_
                                                      have HO_19 := n1_
                                                      have HB := n2_
                                                      clear n0_ n1_ n2_
                                                      obtain ⟨Ao83, co83, eo83⟩ := Kd.R_slice HO_17.out
                                                      (first | subst eo83 | (injection eo83 with f1_ f2_ f3_; have f4_ := f1_.symm; have f5_ := f3_.symm; clear f1_ f2_ f3_; subst f4_; subst f5_))
                                                      have p217 : 0 ≤ (x21_6 : Int) := of_decide_eq_true (by first | (with_reducible assumption) | assumption)
                                                      have q217 : x21_6 < (t209.length : Int) := of_decide_eq_true (by first | (with_reducible assumption) | assumption)
                                                      obtain ⟨ad217, e217, hx217_0⟩ := Kd.at_int (Kd.R_reads' HO_17.out).2.2 x21_6 p217 q217
                                                      cases e217
                                                      replace p217 := eq_true p217
                                                      replace q217 := eq_true q217
                                                      obtain ⟨Ao84, co84, eo84⟩ := Kd.R_slice HO_19.out
                                                      (first | subst eo84 | (injection eo84 with f1_ f2_ f3_; have f4_ := f1_.symm; have f5_ := f3_.symm; clear f1_ f2_ f3_; subst f4_; subst f5_))
                                                      have p218 : 0 ≤ (x21_6 : Int) := of_decide_eq_true (by first | (with_reducible assumption) | assumption)
                                                      have q218 : x21_6 < (t213.length : Int) := of_decide_eq_true (by first | (with_reducible assumption) | assumption)
                                                      obtain ⟨ad218, e218, hx218_0⟩ := Kd.at_int (Kd.R_reads' HO_19.out).2.2 x21_6 p218 q218
                                                      cases e218
                                                      replace p218 := eq_true p218
                                                      replace q218 := eq_true q218
                                                      refine start_ (n := 15) (S := fun w' => w'.cell? (ad217.add (x21_6).toNat) = some (.int .i32 (rd t209 x21_6)) ∧ w'.cell? (ad218.add (x21_6).toNat) = some (.int .i32 (rd t213 x21_6))) (ds := []) #[false, false, false, false, false, false, false, false, false, false, false, false, false, false, false] (by kernel_rfl) rfl rfl ⟨hx217_0, hx218_0⟩ (fun hHeld => ?_); refine with_tabW tillerlaw05_SoftAlone.tab27 tillerlaw05_SoftAlone.bits27 (fun HT_ HW_ => ?_)
                                                      generalize wr.drew = w82 at HO_17 HO_19 HB hx217_0 hx218_0 hHeld ⊢
                                                      refine pure_ (i := 0) (N := some 134) (v := ?_) (a' := ?_) #[true, false, false, false, false, false, false, false, false, false, false, false, false, false, false] rfl rfl (any_of HT_.out (by kernel_rfl)) (fun _ _ _ h => h) (Or.inl ⟨by rfl, ?_⟩) ?_ ?_
                                                      rotate_left
                                                      · intro w'
                                                        go_simp
                                                        with_reducible rfl
                                                      rotate_left
                                                      · simp only [Act.put, List.setIfInBounds_toArray, List.set_cons_zero, List.set_cons_succ, i64_w, i32_w]
                                                        rfl
                                                      refine pure_ (i := 1) (N := some 135) (v := ?_) (a' := ?_) #[true, true, false, false, false, false, false, false, false, false, false, false, false, false, false] rfl rfl (any_of HT_.out (by kernel_rfl)) (fun _ _ _ h => h) (Or.inl ⟨by rfl, ?_⟩) ?_ ?_
                                                      rotate_left
                                                      · intro w'
                                                        go_simp
                                                        with_reducible rfl
                                                      rotate_left
                                                      · simp only [Act.put, List.setIfInBounds_toArray, List.set_cons_zero, List.set_cons_succ, i64_w, i32_w]
                                                        rfl
                                                      refine pure_ (i := 2) (N := some 136) (v := ?_) (a' := ?_) #[true, true, true, false, false, false, false, false, false, false, false, false, false, false, false] rfl rfl (any_of HT_.out (by kernel_rfl)) (fun _ _ _ h => h) (Or.inl ⟨by rfl, ?_⟩) ?_ ?_
                                                      rotate_left
                                                      · intro w'
                                                        go_simp
                                                        with_reducible rfl
                                                      rotate_left
                                                      · simp only [Act.put, List.setIfInBounds_toArray, List.set_cons_zero, List.set_cons_succ, i64_w, i32_w]
                                                        rfl
                                                      refine pure_ (i := 4) (N := some 138) (v := ?_) (a' := ?_) #[true, true, true, false, true, false, false, false, false, false, false, false, false, false, false] rfl rfl (any_of HT_.out (by kernel_rfl)) (fun _ _ _ h => h) (Or.inl ⟨by rfl, ?_⟩) ?_ ?_
                                                      rotate_left
                                                      · intro w'
                                                        go_simp
                                                        with_reducible rfl
                                                      rotate_left
                                                      · simp only [Act.put, List.setIfInBounds_toArray, List.set_cons_zero, List.set_cons_succ, i64_w, i32_w]
                                                        rfl
                                                      refine pure_ (i := 5) (N := some 139) (v := ?_) (a' := ?_) #[true, true, true, false, true, true, false, false, false, false, false, false, false, false, false] rfl rfl (any_of HT_.out (by kernel_rfl)) (fun _ _ _ h => h) (Or.inl ⟨by rfl, ?_⟩) ?_ ?_
                                                      rotate_left
                                                      · intro w'
                                                        go_simp
                                                        with_reducible rfl
                                                      rotate_left
                                                      · simp only [Act.put, List.setIfInBounds_toArray, List.set_cons_zero, List.set_cons_succ, i64_w, i32_w]
                                                        rfl
                                                      refine pure_ (i := 6) (N := some 140) (v := ?_) (a' := ?_) #[true, true, true, false, true, true, true, false, false, false, false, false, false, false, false] rfl rfl (any_of HT_.out (by kernel_rfl)) (fun _ _ _ h => h) (Or.inl ⟨by rfl, ?_⟩) ?_ ?_
                                                      rotate_left
                                                      · intro w'
                                                        go_simp
                                                        with_reducible rfl
                                                      rotate_left
                                                      · simp only [Act.put, List.setIfInBounds_toArray, List.set_cons_zero, List.set_cons_succ, i64_w, i32_w]
                                                        rfl
                                                      refine take_ (i := 3) (N := some 137) (v := ?_) (a' := ?_) #[true, true, true, true, true, true, true, false, false, false, false, false, false, false, false] rfl rfl (take_ofW HT_.out HW_.out (by kernel_rfl)) (fun _ _ _ h => h) (Or.inl ⟨by rfl, ?_⟩) hHeld ?_ ?_
                                                      rotate_left
                                                      · rintro w' ⟨s0, s1⟩
                                                        go_simp
                                                        with_reducible rfl
                                                      rotate_left
                                                      · simp only [Act.put, List.setIfInBounds_toArray, List.set_cons_zero, List.set_cons_succ, i64_w, i32_w]
                                                        rfl
                                                      refine pure_ (i := 7) (N := some 141) (v := ?_) (a' := ?_) #[true, true, true, true, true, true, true, true, false, false, false, false, false, false, false] rfl rfl (any_of HT_.out (by kernel_rfl)) (fun _ _ _ h => h) (Or.inl ⟨by rfl, ?_⟩) ?_ ?_
                                                      rotate_left
                                                      · intro w'
                                                        go_simp
                                                        with_reducible rfl
                                                      rotate_left
                                                      · simp only [Act.put, List.setIfInBounds_toArray, List.set_cons_zero, List.set_cons_succ, i64_w, i32_w]
                                                        rfl
                                                      refine pure_ (i := 8) (N := some 142) (v := ?_) (a' := ?_) #[true, true, true, true, true, true, true, true, true, false, false, false, false, false, false] rfl rfl (any_of HT_.out (by kernel_rfl)) (fun _ _ _ h => h) (Or.inl ⟨by rfl, ?_⟩) ?_ ?_
                                                      rotate_left
                                                      · intro w'
                                                        go_simp
                                                        with_reducible rfl
                                                      rotate_left
                                                      · simp only [Act.put, List.setIfInBounds_toArray, List.set_cons_zero, List.set_cons_succ, i64_w, i32_w]
                                                        rfl
                                                      refine pure_ (i := 9) (N := some 143) (v := ?_) (a' := ?_) #[true, true, true, true, true, true, true, true, true, true, false, false, false, false, false] rfl rfl (any_of HT_.out (by kernel_rfl)) (fun _ _ _ h => h) (Or.inl ⟨by rfl, ?_⟩) ?_ ?_
                                                      rotate_left
                                                      · intro w'
                                                        go_simp
                                                        with_reducible rfl
                                                      rotate_left
                                                      · simp only [Act.put, List.setIfInBounds_toArray, List.set_cons_zero, List.set_cons_succ, i64_w, i32_w]
                                                        rfl
                                                      refine pure_ (i := 10) (N := some 144) (v := ?_) (a' := ?_) #[true, true, true, true, true, true, true, true, true, true, true, false, false, false, false] rfl rfl (any_of HT_.out (by kernel_rfl)) (fun _ _ _ h => h) (Or.inl ⟨by rfl, ?_⟩) ?_ ?_
                                                      rotate_left
                                                      · intro w'
                                                        go_simp
                                                        with_reducible rfl
                                                      rotate_left
                                                      · simp only [Act.put, List.setIfInBounds_toArray, List.set_cons_zero, List.set_cons_succ, i64_w, i32_w]
                                                        rfl
                                                      refine pure_ (i := 11) (N := some 145) (v := ?_) (a' := ?_) #[true, true, true, true, true, true, true, true, true, true, true, true, false, false, false] rfl rfl (any_of HT_.out (by kernel_rfl)) (fun _ _ _ h => h) (Or.inl ⟨by rfl, ?_⟩) ?_ ?_
                                                      rotate_left
                                                      · intro w'
                                                        go_simp
                                                        with_reducible rfl
                                                      rotate_left
                                                      · simp only [Act.put, List.setIfInBounds_toArray, List.set_cons_zero, List.set_cons_succ, i64_w, i32_w]
                                                        rfl
                                                      refine take_ (i := 12) (N := some 146) (v := ?_) (a' := ?_) #[true, true, true, true, true, true, true, true, true, true, true, true, true, false, false] rfl rfl (take_ofW HT_.out HW_.out (by kernel_rfl)) (fun _ _ _ h => h) (Or.inl ⟨by rfl, ?_⟩) hHeld ?_ ?_
                                                      rotate_left
                                                      · rintro w' ⟨s0, s1⟩
                                                        go_simp
                                                        with_reducible rfl
                                                      rotate_left
                                                      · simp only [Act.put, List.setIfInBounds_toArray, List.set_cons_zero, List.set_cons_succ, i64_w, i32_w]
                                                        rfl
                                                      refine pure_ (i := 13) (N := some 147) (v := ?_) (a' := ?_) #[true, true, true, true, true, true, true, true, true, true, true, true, true, true, false] rfl rfl (any_of HT_.out (by kernel_rfl)) (fun _ _ _ h => h) (Or.inl ⟨by rfl, ?_⟩) ?_ ?_
                                                      rotate_left
                                                      · intro w'
                                                        go_simp
                                                        with_reducible rfl
                                                      rotate_left
                                                      · simp only [Act.put, List.setIfInBounds_toArray, List.set_cons_zero, List.set_cons_succ, i64_w, i32_w]
                                                        rfl
                                                      refine pure_ (i := 14) (N := some 148) (v := ?_) (a' := ?_) #[true, true, true, true, true, true, true, true, true, true, true, true, true, true, true] rfl rfl (any_of HT_.out (by kernel_rfl)) (fun _ _ _ h => h) (Or.inl ⟨by rfl, ?_⟩) ?_ ?_
                                                      rotate_left
                                                      · intro w'
                                                        go_simp
                                                        with_reducible rfl
                                                      rotate_left
                                                      · simp only [Act.put, List.setIfInBounds_toArray, List.set_cons_zero, List.set_cons_succ, i64_w, i32_w]
                                                        rfl
                                                      refine done_ (done_of HT_.out (by kernel_rfl)) ?_
                                                      try go_wp2
                                                      go_roundg k6
                                                      case measure => have := HJ6.out; have := HK2.out; have := HJ39.out; have := HK4.out; have := HJ61.out; have := HK6.out; omega
                                                      case rel => exact ⟨(wrap64 (x21_6 + 1)), (by first | rfl | (simp; done) | (simp [*]; done)), H', ⟨by have := HJ6.out; have := HK2.out; have := HJ39.out; have := HK4.out; have := HJ61.out; have := HK6.out; omega⟩, ⟨by (with_reducible repeat (first | apply Kd.R_alloc | apply Kd.R_drewN | apply Kd.R_drew)); exact HO_17.out⟩, ⟨by (with_reducible repeat (first | apply Kd.R_alloc | apply Kd.R_drewN | apply Kd.R_drew)); exact HO_19.out⟩, ⟨by repeat (first | (with_reducible first | exact HB.out | apply below_alloc | apply pw_below_drewN | apply below_drew1) | exact HB.out)⟩⟩
                                                    · rw [if_neg c81] at H
                                                      have c81b0 : ((rd t213 x21_6) == 0) = false := beq_eq_false_iff_ne.mpr c81
                                                      have c81b1 : ((rd t213 x21_6) != 0) = true := bne_iff_ne.mpr c81
                                                      obtain rfl := Option.some.inj H
                                                      try go_wp2
                                                      have n0_ := Aside0.mk (Kd.R_drew HO_17.out)
                                                      have n1_ := Aside0.mk (Kd.R_drew HO_19.out)
                                                      have n2_ := Aside0.mk (below_drew1 HB.out)
                                                      clear HO_17
                                                      clear HO_19
                                                      clear HB
                                                      have HO_17 := n0_
                                                      have HO_19 := n1_
                                                      have HB := n2_
                                                      clear n0_ n1_ n2_
                                                      obtain ⟨Ao86, co86, eo86⟩ := Kd.R_slice HO_17.out
                                                      (first | subst eo86 | (injection eo86 with f1_ f2_ f3_; have f4_ := f1_.symm; have f5_ := f3_.symm; clear f1_ f2_ f3_; subst f4_; subst f5_))
                                                      have p217 : 0 ≤ (x21_6 : Int) := of_decide_eq_true (by first | (with_reducible assumption) | assumption)
                                                      have q217 : x21_6 < (t209.length : Int) := of_decide_eq_true (by first | (with_reducible assumption) | assumption)
                                                      obtain ⟨ad217, e217, hx217_0⟩ := Kd.at_int (Kd.R_reads' HO_17.out).2.2 x21_6 p217 q217
                                                      cases e217
                                                      replace p217 := eq_true p217
                                                      replace q217 := eq_true q217
                                                      obtain ⟨Ao87, co87, eo87⟩ := Kd.R_slice HO_19.out
                                                      (first | subst eo87 | (injection eo87 with f1_ f2_ f3_; have f4_ := f1_.symm; have f5_ := f3_.symm; clear f1_ f2_ f3_; subst f4_; subst f5_))
                                                      have p218 : 0 ≤ (x21_6 : Int) := of_decide_eq_true (by first | (with_reducible assumption) | assumption)
                                                      have q218 : x21_6 < (t213.length : Int) := of_decide_eq_true (by first | (with_reducible assumption) | assumption)
                                                      obtain ⟨ad218, e218, hx218_0⟩ := Kd.at_int (Kd.R_reads' HO_19.out).2.2 x21_6 p218 q218
                                                      cases e218
                                                      replace p218 := eq_true p218
                                                      replace q218 := eq_true q218
                                                      refine start_ (n := 15) (S := fun w' => w'.cell? (ad217.add (x21_6).toNat) = some (.int .i32 (rd t209 x21_6)) ∧ w'.cell? (ad218.add (x21_6).toNat) = some (.int .i32 (rd t213 x21_6))) (ds := []) #[false, false, false, false, false, false, false, false, false, false, false, false, false, false, false] (by kernel_rfl) rfl rfl ⟨hx217_0, hx218_0⟩ (fun hHeld => ?_); refine with_tabW tillerlaw05_SoftAlone.tab27 tillerlaw05_SoftAlone.bits27 (fun HT_ HW_ => ?_)
                                                      generalize wr.drew = w85 at HO_17 HO_19 HB hx217_0 hx218_0 hHeld ⊢
                                                      refine pure_ (i := 0) (N := some 134) (v := ?_) (a' := ?_) #[true, false, false, false, false, false, false, false, false, false, false, false, false, false, false] rfl rfl (any_of HT_.out (by kernel_rfl)) (fun _ _ _ h => h) (Or.inl ⟨by rfl, ?_⟩) ?_ ?_
                                                      rotate_left
                                                      · intro w'
                                                        go_simp
                                                        with_reducible rfl
                                                      rotate_left
                                                      · simp only [Act.put, List.setIfInBounds_toArray, List.set_cons_zero, List.set_cons_succ, i64_w, i32_w]
                                                        rfl
                                                      refine pure_ (i := 1) (N := some 135) (v := ?_) (a' := ?_) #[true, true, false, false, false, false, false, false, false, false, false, false, false, false, false] rfl rfl (any_of HT_.out (by kernel_rfl)) (fun _ _ _ h => h) (Or.inl ⟨by rfl, ?_⟩) ?_ ?_
                                                      rotate_left
                                                      · intro w'
                                                        go_simp
                                                        with_reducible rfl
                                                      rotate_left
                                                      · simp only [Act.put, List.setIfInBounds_toArray, List.set_cons_zero, List.set_cons_succ, i64_w, i32_w]
                                                        rfl
                                                      refine pure_ (i := 2) (N := some 136) (v := ?_) (a' := ?_) #[true, true, true, false, false, false, false, false, false, false, false, false, false, false, false] rfl rfl (any_of HT_.out (by kernel_rfl)) (fun _ _ _ h => h) (Or.inl ⟨by rfl, ?_⟩) ?_ ?_
                                                      rotate_left
                                                      · intro w'
                                                        go_simp
                                                        with_reducible rfl
                                                      rotate_left
                                                      · simp only [Act.put, List.setIfInBounds_toArray, List.set_cons_zero, List.set_cons_succ, i64_w, i32_w]
                                                        rfl
                                                      refine pure_ (i := 4) (N := some 138) (v := ?_) (a' := ?_) #[true, true, true, false, true, false, false, false, false, false, false, false, false, false, false] rfl rfl (any_of HT_.out (by kernel_rfl)) (fun _ _ _ h => h) (Or.inl ⟨by rfl, ?_⟩) ?_ ?_
                                                      rotate_left
                                                      · intro w'
                                                        go_simp
                                                        with_reducible rfl
                                                      rotate_left
                                                      · simp only [Act.put, List.setIfInBounds_toArray, List.set_cons_zero, List.set_cons_succ, i64_w, i32_w]
                                                        rfl
                                                      refine pure_ (i := 5) (N := some 139) (v := ?_) (a' := ?_) #[true, true, true, false, true, true, false, false, false, false, false, false, false, false, false] rfl rfl (any_of HT_.out (by kernel_rfl)) (fun _ _ _ h => h) (Or.inl ⟨by rfl, ?_⟩) ?_ ?_
                                                      rotate_left
                                                      · intro w'
                                                        go_simp
                                                        with_reducible rfl
                                                      rotate_left
                                                      · simp only [Act.put, List.setIfInBounds_toArray, List.set_cons_zero, List.set_cons_succ, i64_w, i32_w]
                                                        rfl
                                                      refine pure_ (i := 6) (N := some 140) (v := ?_) (a' := ?_) #[true, true, true, false, true, true, true, false, false, false, false, false, false, false, false] rfl rfl (any_of HT_.out (by kernel_rfl)) (fun _ _ _ h => h) (Or.inl ⟨by rfl, ?_⟩) ?_ ?_
                                                      rotate_left
                                                      · intro w'
                                                        go_simp
                                                        with_reducible rfl
                                                      rotate_left
                                                      · simp only [Act.put, List.setIfInBounds_toArray, List.set_cons_zero, List.set_cons_succ, i64_w, i32_w]
                                                        rfl
                                                      refine take_ (i := 3) (N := some 137) (v := ?_) (a' := ?_) #[true, true, true, true, true, true, true, false, false, false, false, false, false, false, false] rfl rfl (take_ofW HT_.out HW_.out (by kernel_rfl)) (fun _ _ _ h => h) (Or.inl ⟨by rfl, ?_⟩) hHeld ?_ ?_
                                                      rotate_left
                                                      · rintro w' ⟨s0, s1⟩
                                                        go_simp
                                                        with_reducible rfl
                                                      rotate_left
                                                      · simp only [Act.put, List.setIfInBounds_toArray, List.set_cons_zero, List.set_cons_succ, i64_w, i32_w]
                                                        rfl
                                                      refine pure_ (i := 7) (N := some 141) (v := ?_) (a' := ?_) #[true, true, true, true, true, true, true, true, false, false, false, false, false, false, false] rfl rfl (any_of HT_.out (by kernel_rfl)) (fun _ _ _ h => h) (Or.inl ⟨by rfl, ?_⟩) ?_ ?_
                                                      rotate_left
                                                      · intro w'
                                                        go_simp
                                                        with_reducible rfl
                                                      rotate_left
                                                      · simp only [Act.put, List.setIfInBounds_toArray, List.set_cons_zero, List.set_cons_succ, i64_w, i32_w]
                                                        rfl
                                                      refine pure_ (i := 8) (N := some 142) (v := ?_) (a' := ?_) #[true, true, true, true, true, true, true, true, true, false, false, false, false, false, false] rfl rfl (any_of HT_.out (by kernel_rfl)) (fun _ _ _ h => h) (Or.inl ⟨by rfl, ?_⟩) ?_ ?_
                                                      rotate_left
                                                      · intro w'
                                                        go_simp
                                                        with_reducible rfl
                                                      rotate_left
                                                      · simp only [Act.put, List.setIfInBounds_toArray, List.set_cons_zero, List.set_cons_succ, i64_w, i32_w]
                                                        rfl
                                                      refine pure_ (i := 9) (N := some 143) (v := ?_) (a' := ?_) #[true, true, true, true, true, true, true, true, true, true, false, false, false, false, false] rfl rfl (any_of HT_.out (by kernel_rfl)) (fun _ _ _ h => h) (Or.inl ⟨by rfl, ?_⟩) ?_ ?_
                                                      rotate_left
                                                      · intro w'
                                                        go_simp
                                                        with_reducible rfl
                                                      rotate_left
                                                      · simp only [Act.put, List.setIfInBounds_toArray, List.set_cons_zero, List.set_cons_succ, i64_w, i32_w]
                                                        rfl
                                                      refine pure_ (i := 10) (N := some 144) (v := ?_) (a' := ?_) #[true, true, true, true, true, true, true, true, true, true, true, false, false, false, false] rfl rfl (any_of HT_.out (by kernel_rfl)) (fun _ _ _ h => h) (Or.inl ⟨by rfl, ?_⟩) ?_ ?_
                                                      rotate_left
                                                      · intro w'
                                                        go_simp
                                                        with_reducible rfl
                                                      rotate_left
                                                      · simp only [Act.put, List.setIfInBounds_toArray, List.set_cons_zero, List.set_cons_succ, i64_w, i32_w]
                                                        rfl
                                                      refine pure_ (i := 11) (N := some 145) (v := ?_) (a' := ?_) #[true, true, true, true, true, true, true, true, true, true, true, true, false, false, false] rfl rfl (any_of HT_.out (by kernel_rfl)) (fun _ _ _ h => h) (Or.inl ⟨by rfl, ?_⟩) ?_ ?_
                                                      rotate_left
                                                      · intro w'
                                                        go_simp
                                                        with_reducible rfl
                                                      rotate_left
                                                      · simp only [Act.put, List.setIfInBounds_toArray, List.set_cons_zero, List.set_cons_succ, i64_w, i32_w]
                                                        rfl
                                                      refine take_ (i := 12) (N := some 146) (v := ?_) (a' := ?_) #[true, true, true, true, true, true, true, true, true, true, true, true, true, false, false] rfl rfl (take_ofW HT_.out HW_.out (by kernel_rfl)) (fun _ _ _ h => h) (Or.inl ⟨by rfl, ?_⟩) hHeld ?_ ?_
                                                      rotate_left
                                                      · rintro w' ⟨s0, s1⟩
                                                        go_simp
                                                        with_reducible rfl
                                                      rotate_left
                                                      · simp only [Act.put, List.setIfInBounds_toArray, List.set_cons_zero, List.set_cons_succ, i64_w, i32_w]
                                                        rfl
                                                      refine pure_ (i := 13) (N := some 147) (v := ?_) (a' := ?_) #[true, true, true, true, true, true, true, true, true, true, true, true, true, true, false] rfl rfl (any_of HT_.out (by kernel_rfl)) (fun _ _ _ h => h) (Or.inl ⟨by rfl, ?_⟩) ?_ ?_
                                                      rotate_left
                                                      · intro w'
                                                        go_simp
                                                        with_reducible rfl
                                                      rotate_left
                                                      · simp only [Act.put, List.setIfInBounds_toArray, List.set_cons_zero, List.set_cons_succ, i64_w, i32_w]
                                                        rfl
                                                      refine pure_ (i := 14) (N := some 148) (v := ?_) (a' := ?_) #[true, true, true, true, true, true, true, true, true, true, true, true, true, true, true] rfl rfl (any_of HT_.out (by kernel_rfl)) (fun _ _ _ h => h) (Or.inl ⟨by rfl, ?_⟩) ?_ ?_
                                                      rotate_left
                                                      · intro w'
                                                        go_simp
                                                        with_reducible rfl
                                                      rotate_left
                                                      · simp only [Act.put, List.setIfInBounds_toArray, List.set_cons_zero, List.set_cons_succ, i64_w, i32_w]
                                                        rfl
                                                      refine done_ (done_of HT_.out (by kernel_rfl)) ?_
                                                      try go_wp2
                                                      go_ret
                                                      exact ⟨by first | rfl | (simp [errW_none, errW_some] <;> rfl) | (simp [*, errW_none, errW_some] <;> rfl), by repeat (first | (with_reducible first | exact HB.out | apply below_alloc | apply pw_below_drewN | apply below_drew1) | exact HB.out)⟩
                                                  · rw [if_neg c80] at H
                                                    exact absurd H (by simp)
                                                · rw [if_neg c79] at H
                                                  have c79b0 : ((rd t209 x21_6) == (wrap32 (wrap64 (Int.tdiv (65536 : Int) a1)))) = false := beq_eq_false_iff_ne.mpr c79
                                                  have c79b1 : ((rd t209 x21_6) != (wrap32 (wrap64 (Int.tdiv (65536 : Int) a1)))) = true := bne_iff_ne.mpr c79
                                                  obtain rfl := Option.some.inj H
                                                  try go_wp2
                                                  have n0_ := Aside0.mk (Kd.R_drew HO_17.out)
                                                  have n1_ := Aside0.mk (Kd.R_drew HO_19.out)
                                                  have n2_ := Aside0.mk (below_drew1 HB.out)
                                                  clear HO_17
                                                  clear HO_19
                                                  clear HB
                                                  have HO_17 := n0_
                                                  have HO_19 := n1_
                                                  have HB := n2_
                                                  clear n0_ n1_ n2_
                                                  obtain ⟨Ao89, co89, eo89⟩ := Kd.R_slice HO_17.out
                                                  (first | subst eo89 | (injection eo89 with f1_ f2_ f3_; have f4_ := f1_.symm; have f5_ := f3_.symm; clear f1_ f2_ f3_; subst f4_; subst f5_))
                                                  have p217 : 0 ≤ (x21_6 : Int) := of_decide_eq_true (by first | (with_reducible assumption) | assumption)
                                                  have q217 : x21_6 < (t209.length : Int) := of_decide_eq_true (by first | (with_reducible assumption) | assumption)
                                                  obtain ⟨ad217, e217, hx217_0⟩ := Kd.at_int (Kd.R_reads' HO_17.out).2.2 x21_6 p217 q217
                                                  cases e217
                                                  replace p217 := eq_true p217
                                                  replace q217 := eq_true q217
                                                  refine start_ (n := 15) (S := fun w' => w'.cell? (ad217.add (x21_6).toNat) = some (.int .i32 (rd t209 x21_6))) (ds := []) #[false, false, false, false, false, false, false, false, false, false, false, false, false, false, false] (by kernel_rfl) rfl rfl (hx217_0) (fun hHeld => ?_); refine with_tabW tillerlaw05_SoftAlone.tab27 tillerlaw05_SoftAlone.bits27 (fun HT_ HW_ => ?_)
                                                  generalize wr.drew = w88 at HO_17 HO_19 HB hx217_0 hHeld ⊢
                                                  refine pure_ (i := 0) (N := some 134) (v := ?_) (a' := ?_) #[true, false, false, false, false, false, false, false, false, false, false, false, false, false, false] rfl rfl (any_of HT_.out (by kernel_rfl)) (fun _ _ _ h => h) (Or.inl ⟨by rfl, ?_⟩) ?_ ?_
                                                  rotate_left
                                                  · intro w'
                                                    go_simp
                                                    with_reducible rfl
                                                  rotate_left
                                                  · simp only [Act.put, List.setIfInBounds_toArray, List.set_cons_zero, List.set_cons_succ, i64_w, i32_w]
                                                    rfl
                                                  refine pure_ (i := 1) (N := some 135) (v := ?_) (a' := ?_) #[true, true, false, false, false, false, false, false, false, false, false, false, false, false, false] rfl rfl (any_of HT_.out (by kernel_rfl)) (fun _ _ _ h => h) (Or.inl ⟨by rfl, ?_⟩) ?_ ?_
                                                  rotate_left
                                                  · intro w'
                                                    go_simp
                                                    with_reducible rfl
                                                  rotate_left
                                                  · simp only [Act.put, List.setIfInBounds_toArray, List.set_cons_zero, List.set_cons_succ, i64_w, i32_w]
                                                    rfl
                                                  refine pure_ (i := 2) (N := some 136) (v := ?_) (a' := ?_) #[true, true, true, false, false, false, false, false, false, false, false, false, false, false, false] rfl rfl (any_of HT_.out (by kernel_rfl)) (fun _ _ _ h => h) (Or.inl ⟨by rfl, ?_⟩) ?_ ?_
                                                  rotate_left
                                                  · intro w'
                                                    go_simp
                                                    with_reducible rfl
                                                  rotate_left
                                                  · simp only [Act.put, List.setIfInBounds_toArray, List.set_cons_zero, List.set_cons_succ, i64_w, i32_w]
                                                    rfl
                                                  refine pure_ (i := 4) (N := some 138) (v := ?_) (a' := ?_) #[true, true, true, false, true, false, false, false, false, false, false, false, false, false, false] rfl rfl (any_of HT_.out (by kernel_rfl)) (fun _ _ _ h => h) (Or.inl ⟨by rfl, ?_⟩) ?_ ?_
                                                  rotate_left
                                                  · intro w'
                                                    go_simp
                                                    with_reducible rfl
                                                  rotate_left
                                                  · simp only [Act.put, List.setIfInBounds_toArray, List.set_cons_zero, List.set_cons_succ, i64_w, i32_w]
                                                    rfl
                                                  refine pure_ (i := 5) (N := some 139) (v := ?_) (a' := ?_) #[true, true, true, false, true, true, false, false, false, false, false, false, false, false, false] rfl rfl (any_of HT_.out (by kernel_rfl)) (fun _ _ _ h => h) (Or.inl ⟨by rfl, ?_⟩) ?_ ?_
                                                  rotate_left
                                                  · intro w'
                                                    go_simp
                                                    with_reducible rfl
                                                  rotate_left
                                                  · simp only [Act.put, List.setIfInBounds_toArray, List.set_cons_zero, List.set_cons_succ, i64_w, i32_w]
                                                    rfl
                                                  refine pure_ (i := 6) (N := some 140) (v := ?_) (a' := ?_) #[true, true, true, false, true, true, true, false, false, false, false, false, false, false, false] rfl rfl (any_of HT_.out (by kernel_rfl)) (fun _ _ _ h => h) (Or.inl ⟨by rfl, ?_⟩) ?_ ?_
                                                  rotate_left
                                                  · intro w'
                                                    go_simp
                                                    with_reducible rfl
                                                  rotate_left
                                                  · simp only [Act.put, List.setIfInBounds_toArray, List.set_cons_zero, List.set_cons_succ, i64_w, i32_w]
                                                    rfl
                                                  refine take_ (i := 3) (N := some 137) (v := ?_) (a' := ?_) #[true, true, true, true, true, true, true, false, false, false, false, false, false, false, false] rfl rfl (take_ofW HT_.out HW_.out (by kernel_rfl)) (fun _ _ _ h => h) (Or.inl ⟨by rfl, ?_⟩) hHeld ?_ ?_
                                                  rotate_left
                                                  · intro w' s0
                                                    go_simp
                                                    with_reducible rfl
                                                  rotate_left
                                                  · simp only [Act.put, List.setIfInBounds_toArray, List.set_cons_zero, List.set_cons_succ, i64_w, i32_w]
                                                    rfl
                                                  refine pure_ (i := 7) (N := some 141) (v := ?_) (a' := ?_) #[true, true, true, true, true, true, true, true, false, false, false, false, false, false, false] rfl rfl (any_of HT_.out (by kernel_rfl)) (fun _ _ _ h => h) (Or.inl ⟨by rfl, ?_⟩) ?_ ?_
                                                  rotate_left
                                                  · intro w'
                                                    go_simp
                                                    with_reducible rfl
                                                  rotate_left
                                                  · simp only [Act.put, List.setIfInBounds_toArray, List.set_cons_zero, List.set_cons_succ, i64_w, i32_w]
                                                    rfl
                                                  refine pure_ (i := 8) (N := some 142) (v := ?_) (a' := ?_) #[true, true, true, true, true, true, true, true, true, false, false, false, false, false, false] rfl rfl (any_of HT_.out (by kernel_rfl)) (fun _ _ _ h => h) (Or.inl ⟨by rfl, ?_⟩) ?_ ?_
                                                  rotate_left
                                                  · intro w'
                                                    go_simp
                                                    with_reducible rfl
                                                  rotate_left
                                                  · simp only [Act.put, List.setIfInBounds_toArray, List.set_cons_zero, List.set_cons_succ, i64_w, i32_w]
                                                    rfl
                                                  refine pure_ (i := 9) (N := some 143) (v := undef) (a' := ?_) #[true, true, true, true, true, true, true, true, true, true, false, false, false, false, false] rfl rfl (any_of HT_.out (by kernel_rfl)) (fun _ _ _ h => h) (Or.inr ⟨by rfl, rfl⟩) ?_ ?_
                                                  rotate_left
                                                  · simp only [Act.put, List.setIfInBounds_toArray, List.set_cons_zero, List.set_cons_succ, i64_w, i32_w]
                                                    rfl
                                                  refine pure_ (i := 10) (N := some 144) (v := undef) (a' := ?_) #[true, true, true, true, true, true, true, true, true, true, true, false, false, false, false] rfl rfl (any_of HT_.out (by kernel_rfl)) (fun _ _ _ h => h) (Or.inr ⟨by rfl, rfl⟩) ?_ ?_
                                                  rotate_left
                                                  · simp only [Act.put, List.setIfInBounds_toArray, List.set_cons_zero, List.set_cons_succ, i64_w, i32_w]
                                                    rfl
                                                  refine pure_ (i := 11) (N := some 145) (v := undef) (a' := ?_) #[true, true, true, true, true, true, true, true, true, true, true, true, false, false, false] rfl rfl (any_of HT_.out (by kernel_rfl)) (fun _ _ _ h => h) (Or.inr ⟨by rfl, rfl⟩) ?_ ?_
                                                  rotate_left
                                                  · simp only [Act.put, List.setIfInBounds_toArray, List.set_cons_zero, List.set_cons_succ, i64_w, i32_w]
                                                    rfl
                                                  refine pure_ (i := 12) (N := some 146) (v := undef) (a' := ?_) #[true, true, true, true, true, true, true, true, true, true, true, true, true, false, false] rfl rfl (any_of HT_.out (by kernel_rfl)) (fun _ _ _ h => h) (Or.inr ⟨by rfl, rfl⟩) ?_ ?_
                                                  rotate_left
                                                  · simp only [Act.put, List.setIfInBounds_toArray, List.set_cons_zero, List.set_cons_succ, i64_w, i32_w]
                                                    rfl
                                                  refine pure_ (i := 13) (N := some 147) (v := undef) (a' := ?_) #[true, true, true, true, true, true, true, true, true, true, true, true, true, true, false] rfl rfl (any_of HT_.out (by kernel_rfl)) (fun _ _ _ h => h) (Or.inr ⟨by rfl, rfl⟩) ?_ ?_
                                                  rotate_left
                                                  · simp only [Act.put, List.setIfInBounds_toArray, List.set_cons_zero, List.set_cons_succ, i64_w, i32_w]
                                                    rfl
                                                  refine pure_ (i := 14) (N := some 148) (v := ?_) (a' := ?_) #[true, true, true, true, true, true, true, true, true, true, true, true, true, true, true] rfl rfl (any_of HT_.out (by kernel_rfl)) (fun _ _ _ h => h) (Or.inl ⟨by rfl, ?_⟩) ?_ ?_
                                                  rotate_left
                                                  · intro w'
                                                    go_simp
                                                    with_reducible rfl
                                                  rotate_left
                                                  · simp only [Act.put, List.setIfInBounds_toArray, List.set_cons_zero, List.set_cons_succ, i64_w, i32_w]
                                                    rfl
                                                  refine done_ (done_of HT_.out (by kernel_rfl)) ?_
                                                  try go_wp2
                                                  go_ret
                                                  exact ⟨by first | rfl | (simp [errW_none, errW_some] <;> rfl) | (simp [*, errW_none, errW_some] <;> rfl), by repeat (first | (with_reducible first | exact HB.out | apply below_alloc | apply pw_below_drewN | apply below_drew1) | exact HB.out)⟩
                                            · rw [if_neg c77] at H
                                              exact absurd H (by simp)
                                          · rw [if_neg c76] at H
                                            exact absurd H (by simp)
                                        · rw [if_neg c75] at H
                                          have c75b0 : decide (x21_6 < a1) = false := decide_eq_false c75
                                          clear c75
                                          replace H := Option.bind_eq_some_iff.mp H
                                          obtain ⟨t219, A900, H⟩ := H
                                          replace H : (some t219) = some r := H
                                          have A90 := Aside0.mk A900
                                          clear A900
                                          obtain rfl := Option.some.inj H
                                          go_wp2_with (first | ((with_reducible refine gate_callee (f := 13) rfl ?_); refine goesL_ (some 149) rfl rfl Try.func13 (by kernel_rfl) rfl #[] rfl (by (try simp only [List.map_toArray, List.map_cons, List.map_nil]); first | done | rfl | (simp only [List.length_drop, List.length_take]; rfl)) ?_; (with_reducible refine (tillerlaw05_awake.calls k6  t219 _ A90.out).mono ?_); rintro e w91 ⟨rfl, hb⟩; refine ⟨_, rfl, ?_⟩; have n0_ := Aside0.mk (Kd.R_below (by (with_reducible repeat (first | apply Kd.R_alloc | apply Kd.R_drewN | apply Kd.R_drew)); exact HO_17.out) hb); have n1_ := Aside0.mk (Kd.R_below (by (with_reducible repeat (first | apply Kd.R_alloc | apply Kd.R_drewN | apply Kd.R_drew)); exact HO_19.out) hb); have n2_ := Aside0.mk (below_step (by repeat (first | (with_reducible first | exact HB.out | apply below_alloc | apply pw_below_drewN | apply below_drew1) | exact HB.out)) hb); clear HO_17; clear HO_19; clear HB; have HO_17 := n0_; have HO_19 := n1_; have HB := n2_; clear n0_ n1_ n2_; (try clear hb); (try clear hb2); (try clear hk); (try clear hi)))
                                          go_ret
                                          exact ⟨by first | rfl | (simp [errW_none, errW_some] <;> rfl) | (simp [*, errW_none, errW_some] <;> rfl), by repeat (first | (with_reducible first | exact HB.out | apply below_alloc | apply pw_below_drewN | apply below_drew1) | exact HB.out)⟩
                      · rw [if_neg c46] at H
                        exact absurd H (by simp)
                    · rw [if_neg c45] at H
                      exact absurd H (by simp)

/-- THE ONE PURE STATEMENT of tillerlaw05_SoftAlone: yours. -/
def tillerlaw05_SoftAlone.Pure : Prop := ∀ (a0 : Int) (a1 : Int) (l2 : List Int), (Lit.int .i32 a0).wf = true → (Lit.int .i64 a1).wf = true → l2.length ≤ maxLen → l2.length * 4 ≤ 140737488351232 → (∀ x ∈ l2, (Lit.int .i32 x).wf = true) → ∃ k, tillerlaw05_SoftAlone.f k a0 a1 l2 = some true
theorem tillerlaw05_SoftAlone.walk (P : tillerlaw05_SoftAlone.Pure) (a0 : Int) (a1 : Int) (a2 : Option Addr) (len2 cap2 : Nat) (z2 : List Int) (w : World) (w0 : (Lit.int .i32 a0).wf = true) (w1 : (Lit.int .i64 a1).wf = true) (w2 : (a2 = none ∧ len2 = 0 ∧ cap2 = 0 ∧ z2 = []) ∨ ∃ x, a2 = some x ∧ len2 ≤ cap2 ∧ cap2 ≤ maxLen ∧ z2.length = cap2 ∧ (∀ i, i < z2.length → w.cell? (x.add i) = some (.int .i32 (z2.getD i 0))) ∧ ∀ n ∈ z2, (Lit.int .i32 n).wf = true) (y2 : len2 * 4 ≤ 140737488351232) :
    Calls Try.prog 9 #[.int .i32 a0, .int .i64 a1, .slice a2 len2 cap2] w fun e w' => e = .returned (.bool true) ∧ Below w.heap.size w w' := by
  obtain ⟨l2, rfl, hr2, hm2, hw2, hc2⟩ := ReadsInt.ofRowC w2
  obtain ⟨k, h⟩ := P a0 a1 l2 w0 w1 hm2 y2 hw2
  refine (tillerlaw05_SoftAlone.calls k a0 a1 _ _ l2 true w (Kd.C_of_reads (d := (0 : Int)) (h1 := fun _ => rfl) hr2) hc2 h).mono ?_
  rintro e w' ⟨rfl, hd⟩
  exact ⟨rfl, hd⟩

end Go.Proofs.Ytiooeclnjhncmaa.Q
