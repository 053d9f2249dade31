/- Functions of the program as plain Lean functions, each with a proof that the program's call comes to what it says; and rows of statements over them. No condition but those that the theorems name. Written by a program of this session (myprint.py, over the kit's print with patches of its own). -/
import Derived.Test.YtepbebelbcbciaaQx0
import Derived.Test.YtepbebelbcbciaaQx8
namespace Go.Proofs.Ytepbebelbcbciaa.Q
open Go.RowKit Go.Proofs.YtepbebelbcbciaaW.PrintWords Go.Proofs.YtepbebelbcbciaaW.PrintLast Go.Proofs.YtepbebelbcbciaaW.PrintMore
attribute [local go_sem] max2_int min2_int max_two min_two max_three min_three max_four min_four   -- for this text's walks alone
set_option linter.unusedVariables false
set_option linter.unusedSimpArgs false

/-! ### tillerref02_Pow: function 77 -/
mutual
def tillerref02_Pow.j0 : Nat → Int → Option (Int)
  | 0, _ => none
  | k + 1, x3 => (tillerref02_Step.f (Int.tmod (wrap64 (Int.tdiv x3 1024)) 64)).bind fun t266 => ((tillerref02_Step.f (Int.tmod (wrap64 (Int.tdiv x3 1024)) 64)).bind fun t267 => ((tillerref02_Step.f (wrap64 ((Int.tmod (wrap64 (Int.tdiv x3 1024)) 64) + 1))).bind fun t268 => (tillerref02_Pow.l0 k (wrap64 (t266 - (wrap64 (Int.tdiv (wrap64 ((wrap64 ((wrap64 (t267 - t268)) * (Int.tmod x3 1024))) + 512)) 1024)))) (wrap64 (Int.tdiv x3 65536)))))
def tillerref02_Pow.l0 : Nat → Int → Int → Option (Int)
  | 0, _, _ => none
  | k + 1, x6, x7 => if x7 > 0 then (if x6 > 0 then (tillerref02_Pow.l0 k (wrap64 (Int.tdiv x6 2)) (wrap64 (x7 - 1))) else (some (wrap32 (x6)))) else (some (wrap32 (x6)))
end
def tillerref02_Pow.f (k : Nat) (a0 : Int) : Option (Int) := if a0 < 0 then (tillerref02_Pow.j0 k (wrap64 (-(wrap64 (a0))))) else (tillerref02_Pow.j0 k 0)
theorem tillerref02_Pow.mono_l : ∀ k, (∀ y0, LeO (tillerref02_Pow.j0 k y0) (tillerref02_Pow.j0 (k + 1) y0)) ∧ (∀ y0 y1, LeO (tillerref02_Pow.l0 k y0 y1) (tillerref02_Pow.l0 (k + 1) y0 y1))
  | 0 => ⟨fun _ r h => by simp [tillerref02_Pow.j0] at h, fun _ _ r h => by simp [tillerref02_Pow.l0] at h⟩
  | k + 1 => by
    obtain ⟨ih0, ih1⟩ := tillerref02_Pow.mono_l k
    refine ⟨?_, ?_⟩
    · intro y0
      unfold tillerref02_Pow.j0
      repeat' first
      | (with_reducible exact ih0 _)
      | (with_reducible exact ih1 _ _)
      | (with_reducible exact LeO.refl _)
      | (with_reducible exact LeO.none _)
      | (with_reducible refine LeO.ite ?_ ?_)
      | (with_reducible refine LeO.bind ?_ (fun _ => ?_))
      | exact ih0 _
      | exact ih1 _ _
      | exact LeO.none _
      | refine LeO.ite ?_ ?_
      | refine LeO.bind ?_ (fun _ => ?_)
    · intro y0 y1
      unfold tillerref02_Pow.l0
      repeat' first
      | (with_reducible exact ih0 _)
      | (with_reducible exact ih1 _ _)
      | (with_reducible exact LeO.refl _)
      | (with_reducible exact LeO.none _)
      | (with_reducible refine LeO.ite ?_ ?_)
      | (with_reducible refine LeO.bind ?_ (fun _ => ?_))
      | exact ih0 _
      | exact ih1 _ _
      | exact LeO.none _
      | refine LeO.ite ?_ ?_
      | refine LeO.bind ?_ (fun _ => ?_)
theorem tillerref02_Pow.mono : ∀ a0 k, LeO (tillerref02_Pow.f k a0) (tillerref02_Pow.f (k + 1) a0) := by
  intro a0 k
  obtain ⟨ih0, ih1⟩ := tillerref02_Pow.mono_l k
  unfold tillerref02_Pow.f
  repeat' first
      | (with_reducible exact ih0 _)
      | (with_reducible exact ih1 _ _)
      | (with_reducible exact LeO.refl _)
      | (with_reducible exact LeO.none _)
      | (with_reducible refine LeO.ite ?_ ?_)
      | (with_reducible refine LeO.bind ?_ (fun _ => ?_))
      | exact ih0 _
      | exact ih1 _ _
      | exact LeO.none _
      | refine LeO.ite ?_ ?_
      | refine LeO.bind ?_ (fun _ => ?_)
set_option maxHeartbeats 8000000 in
set_option maxRecDepth 100000 in
theorem tillerref02_Pow.calls (k : Nat) (a0 : Int) (r : Int) (w : World) (h : tillerref02_Pow.f k a0 = some r) :
    Calls Try.prog 77 #[.int .i32 a0] w fun e w' => e = .returned (.int .i32 r) ∧ Below w.heap.size w w' := by
  have HB := Aside0.mk (Below.refl w.heap.size w)
  have H : (if a0 < 0 then (tillerref02_Pow.j0 k (wrap64 (-(wrap64 (a0))))) else (tillerref02_Pow.j0 k 0)) = some r := h
  clear h
  have HC2 := Aside0.mk H
  clear H
  go_enter Try.func77, Try.ntmps77
  go_upto_if 9 with (fail)
  go_cut [3] (fun v3 wc => ∃ (kq : Nat) (x3_1 : Int), v3 = .int .i64 x3_1 ∧ Aside0 (tillerref02_Pow.j0 kq x3_1 = some r) ∧ Aside0 (kq ≤ k) ∧ Aside0 (Below w.heap.size w wc))
  case first =>
    have H := HC2.out
    clear HC2
    by_cases c3 : a0 < 0
    · rw [if_pos c3] at H
      have c3b0 : decide (a0 < 0) = true := decide_eq_true c3
      clear c3
      (first | rw [c3b0] | (simp only [i64_w, i32_w]; rw [c3b0]) | skip)
      have H' := Aside0.mk H
      clear H
      go_wp2
      go_meet
      case rel => exact ⟨_, (wrap64 (-(wrap64 (a0)))), (by first | rfl | (simp; done) | (simp [*]; done)), H', ⟨by first | omega | exact Nat.le_refl _⟩, ⟨by repeat (first | (with_reducible first | exact HB.out | apply below_alloc | apply pw_below_drewN | apply below_drew1) | exact HB.out)⟩⟩
    · rw [if_neg c3] at H
      have c3b0 : decide (a0 < 0) = false := decide_eq_false c3
      clear c3
      (first | rw [c3b0] | (simp only [i64_w, i32_w]; rw [c3b0]) | skip)
      have H' := Aside0.mk H
      clear H
      go_wp2
      go_meet
      case rel => exact ⟨_, (0), (by first | rfl | (simp; done) | (simp [*]; done)), H', ⟨by first | omega | exact Nat.le_refl _⟩, ⟨by repeat (first | (with_reducible first | exact HB.out | apply below_alloc | apply pw_below_drewN | apply below_drew1) | exact HB.out)⟩⟩
  case rest =>
    clear HC2
    try clear p2
    try clear c3
    try clear c3b0
    obtain ⟨kq, x3_1, rfl, HA, HJ1, HB⟩ := hcut
    cases kq with
    | zero => exact absurd HA.out (by simp [tillerref02_Pow.j0])
    | succ kj1 =>
      have H := HA.out
      clear HA
      simp only [tillerref02_Pow.j0] at H
      replace H := Option.bind_eq_some_iff.mp H
      obtain ⟨t266, A40, H⟩ := H
      replace H : ((tillerref02_Step.f (Int.tmod (wrap64 (Int.tdiv x3_1 1024)) 64)).bind fun t267 => ((tillerref02_Step.f (wrap64 ((Int.tmod (wrap64 (Int.tdiv x3_1 1024)) 64) + 1))).bind fun t268 => (tillerref02_Pow.l0 kj1 (wrap64 (t266 - (wrap64 (Int.tdiv (wrap64 ((wrap64 ((wrap64 (t267 - t268)) * (Int.tmod x3_1 1024))) + 512)) 1024)))) (wrap64 (Int.tdiv x3_1 65536))))) = some r := H
      have A4 := Aside0.mk A40
      clear A40
      replace H := Option.bind_eq_some_iff.mp H
      obtain ⟨t267, A50, H⟩ := H
      replace H : ((tillerref02_Step.f (wrap64 ((Int.tmod (wrap64 (Int.tdiv x3_1 1024)) 64) + 1))).bind fun t268 => (tillerref02_Pow.l0 kj1 (wrap64 (t266 - (wrap64 (Int.tdiv (wrap64 ((wrap64 ((wrap64 (t267 - t268)) * (Int.tmod x3_1 1024))) + 512)) 1024)))) (wrap64 (Int.tdiv x3_1 65536)))) = some r := H
      have A5 := Aside0.mk A50
      clear A50
      replace H := Option.bind_eq_some_iff.mp H
      obtain ⟨t268, A60, H⟩ := H
      replace H : (tillerref02_Pow.l0 kj1 (wrap64 (t266 - (wrap64 (Int.tdiv (wrap64 ((wrap64 ((wrap64 (t267 - t268)) * (Int.tmod x3_1 1024))) + 512)) 1024)))) (wrap64 (Int.tdiv x3_1 65536))) = some r := H
      have A6 := Aside0.mk A60
      clear A60
      have H' := Aside0.mk H
      clear H
      go_wp2_with (first | ((with_reducible refine gate_callee (f := 83) rfl ?_); refine goesL_ (some 19) rfl rfl Try.func83 (by kernel_rfl) rfl #[.int .i64 (Int.tmod (wrap64 (Int.tdiv x3_1 1024)) 64)] rfl (by (try simp only [List.map_toArray, List.map_cons, List.map_nil]); first | done | rfl | (simp only [List.length_drop, List.length_take]; rfl)) ?_; (with_reducible refine (tillerref02_Step.calls (Int.tmod (wrap64 (Int.tdiv x3_1 1024)) 64) t266 _ A4.out).mono ?_); rintro e w7 ⟨rfl, hb⟩; refine ⟨_, rfl, ?_⟩; have n0_ := Aside0.mk (below_step (by repeat (first | (with_reducible first | exact HB.out | apply below_alloc | apply pw_below_drewN | apply below_drew1) | exact HB.out)) hb); clear HB; have HB := n0_; clear n0_; (try clear hb); (try clear hb2); (try clear hk); (try clear hi)) | ((with_reducible refine gate_callee (f := 83) rfl ?_); refine goesL_ (some 21) rfl rfl Try.func83 (by kernel_rfl) rfl #[.int .i64 (Int.tmod (wrap64 (Int.tdiv x3_1 1024)) 64)] rfl (by (try simp only [List.map_toArray, List.map_cons, List.map_nil]); first | done | rfl | (simp only [List.length_drop, List.length_take]; rfl)) ?_; (with_reducible refine (tillerref02_Step.calls (Int.tmod (wrap64 (Int.tdiv x3_1 1024)) 64) t267 _ A5.out).mono ?_); rintro e w8 ⟨rfl, hb⟩; refine ⟨_, rfl, ?_⟩; have n0_ := Aside0.mk (below_step (by repeat (first | (with_reducible first | exact HB.out | apply below_alloc | apply pw_below_drewN | apply below_drew1) | exact HB.out)) hb); clear HB; have HB := n0_; clear n0_; (try clear hb); (try clear hb2); (try clear hk); (try clear hi)) | ((with_reducible refine gate_callee (f := 83) rfl ?_); refine goesL_ (some 24) rfl rfl Try.func83 (by kernel_rfl) rfl #[.int .i64 (wrap64 ((Int.tmod (wrap64 (Int.tdiv x3_1 1024)) 64) + 1))] rfl (by (try simp only [List.map_toArray, List.map_cons, List.map_nil]); first | done | rfl | (simp only [List.length_drop, List.length_take]; rfl)) ?_; (with_reducible refine (tillerref02_Step.calls (wrap64 ((Int.tmod (wrap64 (Int.tdiv x3_1 1024)) 64) + 1)) t268 _ A6.out).mono ?_); rintro e w9 ⟨rfl, hb⟩; refine ⟨_, rfl, ?_⟩; have n0_ := Aside0.mk (below_step (by repeat (first | (with_reducible first | exact HB.out | apply below_alloc | apply pw_below_drewN | apply below_drew1) | exact HB.out)) hb); clear HB; have HB := n0_; clear n0_; (try clear hb); (try clear hb2); (try clear hk); (try clear hi)))
      go_loopg [6, 7] kj1 (fun kq v6 v7 w' => ∃ (x6_2 : Int) (x7_2 : Int), v6 = .int .i64 x6_2 ∧ v7 = .int .i64 x7_2 ∧ Aside0 (tillerref02_Pow.l0 kq x6_2 x7_2 = some r) ∧ Aside0 (kq ≤ kj1) ∧ Aside0 (Below w.heap.size w w'))
      case atStart => exact ⟨(wrap64 (t266 - (wrap64 (Int.tdiv (wrap64 ((wrap64 ((wrap64 (t267 - t268)) * (Int.tmod x3_1 1024))) + 512)) 1024)))), (wrap64 (Int.tdiv x3_1 65536)), (by first | rfl | (simp; done) | (simp [*]; done)), (by first | rfl | (simp; done) | (simp [*]; done)), H', ⟨Nat.le_refl _⟩, ⟨by repeat (first | (with_reducible first | exact HB.out | apply below_alloc | apply pw_below_drewN | apply below_drew1) | exact HB.out)⟩⟩
      case round =>
        clear H'
        try clear p2
        try clear c3
        try clear c3b0
        try clear p6
        try clear c7
        try clear c8
        try clear p2
        obtain ⟨x6_2, x7_2, rfl, rfl, HA, HK2, HB⟩ := hrel
        cases gk with
        | zero => exact absurd HA.out (by simp [tillerref02_Pow.l0])
        | succ k2 =>
          have H := HA.out
          clear HA
          simp only [tillerref02_Pow.l0] at H
          by_cases c10 : x7_2 > 0
          · rw [if_pos c10] at H
            have c10b0 : decide (0 < x7_2) = true := decide_eq_true c10
            clear c10
            by_cases c11 : x6_2 > 0
            · rw [if_pos c11] at H
              have c11b0 : decide (0 < x6_2) = true := decide_eq_true c11
              clear c11
              have H' := Aside0.mk H
              clear H
              go_wp2
              go_roundg k2
              case measure => have := HJ1.out; have := HK2.out; omega
              case rel => exact ⟨(wrap64 (Int.tdiv x6_2 2)), (wrap64 (x7_2 - 1)), (by first | rfl | (simp; done) | (simp [*]; done)), (by first | rfl | (simp; done) | (simp [*]; done)), H', ⟨by have := HJ1.out; have := HK2.out; omega⟩, ⟨by repeat (first | (with_reducible first | exact HB.out | apply below_alloc | apply pw_below_drewN | apply below_drew1) | exact HB.out)⟩⟩
            · rw [if_neg c11] at H
              have c11b0 : decide (0 < x6_2) = false := decide_eq_false c11
              clear c11
              obtain rfl := Option.some.inj H
              go_wp2
              go_ret
              exact ⟨by first | rfl | (simp [errW_none, errW_some] <;> rfl) | (simp [*, errW_none, errW_some] <;> rfl), by repeat (first | (with_reducible first | exact HB.out | apply below_alloc | apply pw_below_drewN | apply below_drew1) | exact HB.out)⟩
          · rw [if_neg c10] at H
            have c10b0 : decide (0 < x7_2) = false := decide_eq_false c10
            clear c10
            obtain rfl := Option.some.inj H
            go_wp2
            go_ret
            exact ⟨by first | rfl | (simp [errW_none, errW_some] <;> rfl) | (simp [*, errW_none, errW_some] <;> rfl), by repeat (first | (with_reducible first | exact HB.out | apply below_alloc | apply pw_below_drewN | apply below_drew1) | exact HB.out)⟩

/-! ### tillerref05_Weights: function 56 -/
mutual
def tillerref05_Weights.l0 : Nat → List Int → Int → List Int → Int → Int → Option (List Int)
  | 0, _, _, _, _, _ => none
  | k + 1, x0, x3, x4, x5, x6 => if x6 < (x0.length : Int) then (if 0 ≤ x6 then ((tillerref01_Sat.f (wrap64 ((wrap64 (rd x0 x6)) - (wrap64 (x3))))).bind fun t275 => ((tillerref02_Pow.f k t275).bind fun t276 => (if x4.length < 17592186044416 then (tillerref05_Weights.l0 k x0 x3 (x4 ++ [wrap64 (t276)]) (wrap64 (x5 + (wrap64 (t276)))) (wrap64 (x6 + 1))) else (none)))) else (none)) else (tillerref05_Weights.l1 k x4 x5 (([] : List Int)) 0)
def tillerref05_Weights.l1 : Nat → List Int → Int → List Int → Int → Option (List Int)
  | 0, _, _, _, _ => none
  | k + 1, x4, x5, x8, x9 => if x9 < (x4.length : Int) then (if 0 ≤ x9 then (if x5 = 0 then (none) else (if x8.length < 35184372088832 then (tillerref05_Weights.l1 k x4 x5 (x8 ++ [wrap32 (wrap64 (Int.tdiv (wrap64 (65536 * (rd x4 x9))) x5))]) (wrap64 (x9 + 1))) else (none))) else (none)) else (some x8)
end
def tillerref05_Weights.f (k : Nat) (l0 : List Int) : Option (List Int) := (tillerref03_Argmax.f k l0).bind fun t269 => (if 0 ≤ t269 then (if t269 < (l0.length : Int) then (tillerref05_Weights.l0 k l0 (rd l0 t269) (([] : List Int)) 0 0) else (none)) else (none))
theorem tillerref05_Weights.mono_l : ∀ k, (∀ y0 y1 y2 y3 y4, LeO (tillerref05_Weights.l0 k y0 y1 y2 y3 y4) (tillerref05_Weights.l0 (k + 1) y0 y1 y2 y3 y4)) ∧ (∀ y0 y1 y2 y3, LeO (tillerref05_Weights.l1 k y0 y1 y2 y3) (tillerref05_Weights.l1 (k + 1) y0 y1 y2 y3))
  | 0 => ⟨fun _ _ _ _ _ r h => by simp [tillerref05_Weights.l0] at h, fun _ _ _ _ r h => by simp [tillerref05_Weights.l1] at h⟩
  | k + 1 => by
    obtain ⟨ih0, ih1⟩ := tillerref05_Weights.mono_l k
    refine ⟨?_, ?_⟩
    · intro y0 y1 y2 y3 y4
      unfold tillerref05_Weights.l0
      repeat' first
      | (with_reducible exact ih0 _ _ _ _ _)
      | (with_reducible exact ih1 _ _ _ _)
      | (with_reducible exact tillerref02_Pow.mono _ _)
      | (with_reducible exact tillerref03_Argmax.mono _ _)
      | (with_reducible exact LeO.refl _)
      | (with_reducible exact LeO.none _)
      | (with_reducible refine LeO.ite ?_ ?_)
      | (with_reducible refine LeO.bind ?_ (fun _ => ?_))
      | exact ih0 _ _ _ _ _
      | exact ih1 _ _ _ _
      | exact tillerref02_Pow.mono _ _
      | exact tillerref03_Argmax.mono _ _
      | exact LeO.none _
      | refine LeO.ite ?_ ?_
      | refine LeO.bind ?_ (fun _ => ?_)
    · intro y0 y1 y2 y3
      unfold tillerref05_Weights.l1
      repeat' first
      | (with_reducible exact ih0 _ _ _ _ _)
      | (with_reducible exact ih1 _ _ _ _)
      | (with_reducible exact tillerref02_Pow.mono _ _)
      | (with_reducible exact tillerref03_Argmax.mono _ _)
      | (with_reducible exact LeO.refl _)
      | (with_reducible exact LeO.none _)
      | (with_reducible refine LeO.ite ?_ ?_)
      | (with_reducible refine LeO.bind ?_ (fun _ => ?_))
      | exact ih0 _ _ _ _ _
      | exact ih1 _ _ _ _
      | exact tillerref02_Pow.mono _ _
      | exact tillerref03_Argmax.mono _ _
      | exact LeO.none _
      | refine LeO.ite ?_ ?_
      | refine LeO.bind ?_ (fun _ => ?_)
theorem tillerref05_Weights.mono : ∀ a0 k, LeO (tillerref05_Weights.f k a0) (tillerref05_Weights.f (k + 1) a0) := by
  intro a0 k
  obtain ⟨ih0, ih1⟩ := tillerref05_Weights.mono_l k
  unfold tillerref05_Weights.f
  repeat' first
      | (with_reducible exact ih0 _ _ _ _ _)
      | (with_reducible exact ih1 _ _ _ _)
      | (with_reducible exact tillerref02_Pow.mono _ _)
      | (with_reducible exact tillerref03_Argmax.mono _ _)
      | (with_reducible exact LeO.refl _)
      | (with_reducible exact LeO.none _)
      | (with_reducible refine LeO.ite ?_ ?_)
      | (with_reducible refine LeO.bind ?_ (fun _ => ?_))
      | exact ih0 _ _ _ _ _
      | exact ih1 _ _ _ _
      | exact tillerref02_Pow.mono _ _
      | exact tillerref03_Argmax.mono _ _
      | exact LeO.none _
      | refine LeO.ite ?_ ?_
      | refine LeO.bind ?_ (fun _ => ?_)
set_option maxHeartbeats 8000000 in
set_option maxRecDepth 100000 in
theorem tillerref05_Weights.calls (k : Nat) (A0 : Option Addr) (c0 : Nat) (l0 : List Int) (r : List Int) (w : World) (hr0 : Kd.C (Kd.int .i32) w A0 l0.length l0) (hc0 : l0.length ≤ c0) (h : tillerref05_Weights.f k l0 = some r) :
    Calls Try.prog 56 #[.slice A0 l0.length c0] w fun e w' => ∃ v0_ : Value, e = .returned (v0_) ∧ Kd.R (Kd.int .i32) 72 w' w.heap.size (fun _ => True) v0_ r ∧ Below w.heap.size w w' := by
  have HR0 := Aside0.mk hr0
  have HC0 := Aside0.mk hc0
  clear hr0 hc0
  have HB := Aside0.mk (Below.refl w.heap.size w)
  have H : ((tillerref03_Argmax.f k l0).bind fun t269 => (if 0 ≤ t269 then (if t269 < (l0.length : Int) then (tillerref05_Weights.l0 k l0 (rd l0 t269) (([] : List Int)) 0 0) else (none)) else (none))) = some r := h
  clear h
  replace H := Option.bind_eq_some_iff.mp H
  obtain ⟨t269, A20, H⟩ := H
  replace H : (if 0 ≤ t269 then (if t269 < (l0.length : Int) then (tillerref05_Weights.l0 k l0 (rd l0 t269) (([] : List Int)) 0 0) else (none)) else (none)) = some r := H
  have A2 := Aside0.mk A20
  clear A20
  by_cases c3 : 0 ≤ t269
  · rw [if_pos c3] at H
    have c3b0 : decide (0 ≤ t269) = true := decide_eq_true c3
    clear c3
    by_cases c4 : t269 < (l0.length : Int)
    · rw [if_pos c4] at H
      have c4b0 : decide (t269 < (l0.length : Int)) = true := decide_eq_true c4
      clear c4
      obtain ⟨y271, hy271⟩ : ∃ y_ : List Int, y_ = (([] : List Int)) := ⟨_, rfl⟩
      replace H : (tillerref05_Weights.l0 k l0 (rd l0 t269) y271 0 0) = some r := by first | (rw [hy271]; with_reducible exact H) | (have H2_ := (Option.bind_some _ _).symm.trans H; rw [hy271]; with_reducible exact H2_) | (have H2_ := (Option.bind_some _ _).symm.trans H; with_reducible exact H2_) | with_reducible exact H | (rw [hy271]; exact H) | exact H
      have Ny271 := Aside0.mk hy271
      clear hy271
      have H' := Aside0.mk H
      clear H
      go_enter Try.func56, Try.ntmps56
      go_wp2_with (first | ((with_reducible refine gate_callee (f := 76) rfl ?_); refine goesL_ (some 12) rfl rfl Try.func76 (by kernel_rfl) rfl #[.slice A0 l0.length c0] rfl (by (try simp only [List.map_toArray, List.map_cons, List.map_nil]); first | done | rfl | (simp only [List.length_drop, List.length_take]; rfl)) ?_; (with_reducible refine (tillerref03_Argmax.calls k _ _ l0 t269 _ ?side1 ?side2 A2.out).mono ?_); (case side1 => repeat (first | exact HR0.out | (with_reducible refine Kd.C_alloc ?_ _) | (with_reducible refine Kd.C_drewN ?_ _) | (with_reducible refine Kd.C_drew ?_))); (case side2 => exact HC0.out); rintro e w' ⟨rfl, ⟨nd, rfl⟩⟩; refine ⟨_, rfl, ?_⟩; have p270 : 0 ≤ (t269 : Int) := of_decide_eq_true (by first | (with_reducible assumption) | assumption); have q270 : t269 < (l0.length : Int) := of_decide_eq_true (by first | (with_reducible assumption) | assumption); obtain ⟨ad270, e270, hx270_0⟩ := Kd.at_int HR0.out t269 p270 q270; cases e270; replace p270 := eq_true p270; replace q270 := eq_true q270) | ((with_reducible refine gate_dst (N := 15) rfl ?_); refine Kd.R_lit (Kd.int .i64) _ 2 ?hg (N := 15) ?hd (xs := ([] : List Int)) (inner := []) (ok := fun _ => True) (okp := fun _ => True) ?hr ?hp (fun _ hk => hk) trivial (Below.refl _ _) (Nat.le_refl _) (by simp) ?_; (case hd => rfl); (case hg => rfl); (case hr => first | (go_simp; done) | (go_simp; rfl)); (case hp => exact (Reps.none _ _)); intro v272 w5 ho6 hb hg_ hnew_; clear hg_ hnew_; (first | rw [← Ny271.out] at ho6 | (simp only [Int.reduceToNat] at ho6; rw [← Ny271.out] at ho6)); have n0_ := Aside0.mk (Kd.R_lower ho6 (below_size (by repeat (first | (with_reducible first | exact HB.out | apply below_alloc | apply pw_below_drewN | apply below_drew1) | exact HB.out)))); have n1_ := Aside0.mk (below_step (by repeat (first | (with_reducible first | exact HB.out | apply below_alloc | apply pw_below_drewN | apply below_drew1) | exact HB.out)) hb); clear HB; have HO273 := n0_; have HB := n1_; clear n0_ n1_; clear hb ho6))
      go_loopg [4, 5, 6] k (fun kq v4 v5 v6 w' => ∃ (x4_1 : List Int) (x5_1 : Int) (x6_1 : Int), v5 = .int .i64 x5_1 ∧ v6 = .int .i64 x6_1 ∧ Aside0 (tillerref05_Weights.l0 kq l0 (rd l0 t269) x4_1 x5_1 x6_1 = some r) ∧ Aside0 (kq ≤ k) ∧ Aside0 (Kd.R (Kd.int .i64) 2 w' w.heap.size (fun _ => True) v4 x4_1) ∧ Aside0 (Below w.heap.size w w'))
      case atStart => exact ⟨(y271), (0), (0), (by first | rfl | (simp; done) | (simp [*]; done)), (by first | rfl | (simp; done) | (simp [*]; done)), H', ⟨Nat.le_refl _⟩, ⟨by (with_reducible repeat (first | apply Kd.R_alloc | apply Kd.R_drewN | apply Kd.R_drew)); exact HO273.out⟩, ⟨by repeat (first | (with_reducible first | exact HB.out | apply below_alloc | apply pw_below_drewN | apply below_drew1) | exact HB.out)⟩⟩
      case round =>
        clear H'
        try clear p2
        try clear q2
        try clear hx2
        try clear c3
        try clear c3b0
        try clear c4
        try clear c4b0
        try clear c5
        try clear hx270_0
        try clear p270
        try clear q270
        obtain ⟨x4_1, x5_1, x6_1, rfl, rfl, HA, HK1, HO_4, HB⟩ := hrel
        cases gk with
        | zero => exact absurd HA.out (by simp [tillerref05_Weights.l0])
        | succ k1 =>
          have H := HA.out
          clear HA
          simp only [tillerref05_Weights.l0] at H
          by_cases c7 : x6_1 < (l0.length : Int)
          · rw [if_pos c7] at H
            have c7b0 : decide (x6_1 < (l0.length : Int)) = true := decide_eq_true c7
            clear c7
            by_cases c8 : 0 ≤ x6_1
            · rw [if_pos c8] at H
              have c8b0 : decide (0 ≤ x6_1) = true := decide_eq_true c8
              clear c8
              replace H := Option.bind_eq_some_iff.mp H
              obtain ⟨t275, A90, H⟩ := H
              replace H : ((tillerref02_Pow.f k1 t275).bind fun t276 => (if x4_1.length < 17592186044416 then (tillerref05_Weights.l0 k1 l0 (rd l0 t269) (x4_1 ++ [wrap64 (t276)]) (wrap64 (x5_1 + (wrap64 (t276)))) (wrap64 (x6_1 + 1))) else (none))) = some r := H
              have A9 := Aside0.mk A90
              clear A90
              replace H := Option.bind_eq_some_iff.mp H
              obtain ⟨t276, A100, H⟩ := H
              replace H : (if x4_1.length < 17592186044416 then (tillerref05_Weights.l0 k1 l0 (rd l0 t269) (x4_1 ++ [wrap64 (t276)]) (wrap64 (x5_1 + (wrap64 (t276)))) (wrap64 (x6_1 + 1))) else (none)) = some r := H
              have A10 := Aside0.mk A100
              clear A100
              by_cases c11 : x4_1.length < 17592186044416
              · rw [if_pos c11] at H
                have LMc11 := Aside0.mk c11
                clear c11
                obtain ⟨y277, hy277⟩ : ∃ y_ : List Int, y_ = (x4_1 ++ [wrap64 (t276)]) := ⟨_, rfl⟩
                replace H : (tillerref05_Weights.l0 k1 l0 (rd l0 t269) y277 (wrap64 (x5_1 + (wrap64 (t276)))) (wrap64 (x6_1 + 1))) = some r := by first | (rw [hy277]; with_reducible exact H) | (have H2_ := (Option.bind_some _ _).symm.trans H; rw [hy277]; with_reducible exact H2_) | (have H2_ := (Option.bind_some _ _).symm.trans H; with_reducible exact H2_) | with_reducible exact H | (rw [hy277]; exact H) | exact H
                have Ny277 := Aside0.mk hy277
                clear hy277
                have H' := Aside0.mk H
                clear H
                have p274 : 0 ≤ (x6_1 : Int) := of_decide_eq_true (by first | (with_reducible assumption) | assumption)
                have q274 : x6_1 < (l0.length : Int) := of_decide_eq_true (by first | (with_reducible assumption) | assumption)
                obtain ⟨ad274, e274, hx274_0⟩ := Kd.at_int HR0.out x6_1 p274 q274
                obtain rfl : ad270 = ad274 := (by injection e274)
                (first | replace hx274_0 := (HB.out.cell (World.block_lt_of_cell? w _ hx274_0)).trans hx274_0 | skip)
                replace p274 := eq_true p274
                replace q274 := eq_true q274
                go_wp2_with (first | ((with_reducible refine gate_callee (f := 63) rfl ?_); refine goesL_ (some 30) rfl rfl Try.func63 (by kernel_rfl) rfl #[.int .i64 (wrap64 ((wrap64 (rd l0 x6_1)) - (wrap64 ((rd l0 t269)))))] rfl (by (try simp only [List.map_toArray, List.map_cons, List.map_nil]); first | done | rfl | (simp only [List.length_drop, List.length_take]; rfl)) ?_; (with_reducible refine (tillerref01_Sat.calls (wrap64 ((wrap64 (rd l0 x6_1)) - (wrap64 ((rd l0 t269))))) t275 _ A9.out).mono ?_); rintro e w' ⟨rfl, ⟨nd, rfl⟩⟩; refine ⟨_, rfl, ?_⟩) | ((with_reducible refine gate_callee (f := 77) rfl ?_); refine goesL_ (some 31) rfl rfl Try.func77 (by kernel_rfl) rfl #[.int .i32 t275] rfl (by (try simp only [List.map_toArray, List.map_cons, List.map_nil]); first | done | rfl | (simp only [List.length_drop, List.length_take]; rfl)) ?_; (with_reducible refine (tillerref02_Pow.calls k1 t275 t276 _ A10.out).mono ?_); rintro e w12 ⟨rfl, hb⟩; refine ⟨_, rfl, ?_⟩; have n0_ := Aside0.mk (Kd.R_below (by (with_reducible repeat (first | apply Kd.R_alloc | apply Kd.R_drewN | apply Kd.R_drew)); exact HO_4.out) hb); have n1_ := Aside0.mk (below_step (by repeat (first | (with_reducible first | exact HB.out | apply below_alloc | apply pw_below_drewN | apply below_drew1) | exact HB.out)) hb); clear HO_4; clear HB; have HO_4 := n0_; have HB := n1_; clear n0_ n1_; (try clear hb); (try clear hb2); (try clear hk); (try clear hi)) | ((with_reducible refine gate_builtin (b := .append) (xs := #[.tmp 33, .tmp 35]) rfl ?_); at_builtin; refine Kd.R_append (Kd.int .i64) (w0 := w) w.heap.size rfl (.tmp 33) (.tmp 35) 114 2 (.int .i64 0) 8 rfl Try.underlying114 info2 rfl (by decide) (by omega) u4 x4_1 (wrap64 (t276)) [.int .i64 (wrap64 (t276))] (fun _ => True) (fun _ => False) rfl rfl ?aP (fun _ hk => hk.elim) ?aF ?aO ?aB ?aS ?aL ?_; (case aP => exact rfl); (case aB => exact (by repeat (first | (with_reducible first | exact HB.out | apply below_alloc | apply pw_below_drewN | apply below_drew1) | exact HB.out))); (case aF => exact (fun _ _ => trivial)); (case aO => exact (by (with_reducible repeat (first | apply Kd.R_alloc | apply Kd.R_drewN | apply Kd.R_drew)); exact HO_4.out)); (case aS => exact (below_size (by repeat (first | (with_reducible first | exact HB.out | apply below_alloc | apply pw_below_drewN | apply below_drew1) | exact HB.out)))); (case aL => have := LMc11.out; omega); intro v278 w13 ho hb hg hat; rw [← Ny277.out] at ho; have n0_ := Aside0.mk (hb); have n1_ := Aside0.mk (ho); clear HB; clear HO_4; have HB := n0_; have HO279 := n1_; clear n0_ n1_; clear ho hb hg hat))
                go_roundg k1
                case measure => have := HK1.out; omega
                case rel => exact ⟨(y277), (wrap64 (x5_1 + (wrap64 (t276)))), (wrap64 (x6_1 + 1)), (by first | rfl | (simp; done) | (simp [*]; done)), (by first | rfl | (simp; done) | (simp [*]; done)), H', ⟨by have := HK1.out; omega⟩, ⟨by (with_reducible repeat (first | apply Kd.R_alloc | apply Kd.R_drewN | apply Kd.R_drew)); exact HO279.out⟩, ⟨by repeat (first | (with_reducible first | exact HB.out | apply below_alloc | apply pw_below_drewN | apply below_drew1) | exact HB.out)⟩⟩
              · rw [if_neg c11] at H
                exact absurd H (by simp)
            · rw [if_neg c8] at H
              exact absurd H (by simp)
          · rw [if_neg c7] at H
            have c7b0 : decide (x6_1 < (l0.length : Int)) = false := decide_eq_false c7
            clear c7
            obtain ⟨y280, hy280⟩ : ∃ y_ : List Int, y_ = (([] : List Int)) := ⟨_, rfl⟩
            replace H : (tillerref05_Weights.l1 k1 x4_1 x5_1 y280 0) = some r := by first | (rw [hy280]; with_reducible exact H) | (have H2_ := (Option.bind_some _ _).symm.trans H; rw [hy280]; with_reducible exact H2_) | (have H2_ := (Option.bind_some _ _).symm.trans H; with_reducible exact H2_) | with_reducible exact H | (rw [hy280]; exact H) | exact H
            have Ny280 := Aside0.mk hy280
            clear hy280
            have H' := Aside0.mk H
            clear H
            go_wp2_with (first | ((with_reducible refine gate_dst (N := 40) rfl ?_); refine Kd.R_lit (Kd.int .i32) _ 72 ?hg (N := 40) ?hd (xs := ([] : List Int)) (inner := []) (ok := fun _ => True) (okp := fun _ => True) ?hr ?hp (fun _ hk => hk) trivial (Below.refl _ _) (Nat.le_refl _) (by simp) ?_; (case hd => rfl); (case hg => rfl); (case hr => first | (go_simp; done) | (go_simp; rfl)); (case hp => exact (Reps.none _ _)); intro v281 w14 ho15 hb hg_ hnew_; clear hg_ hnew_; (first | rw [← Ny280.out] at ho15 | (simp only [Int.reduceToNat] at ho15; rw [← Ny280.out] at ho15)); have n0_ := Aside0.mk (Kd.R_below (by (with_reducible repeat (first | apply Kd.R_alloc | apply Kd.R_drewN | apply Kd.R_drew)); exact HO_4.out) hb); have n1_ := Aside0.mk (Kd.R_lower ho15 (below_size (by repeat (first | (with_reducible first | exact HB.out | apply below_alloc | apply pw_below_drewN | apply below_drew1) | exact HB.out)))); have n2_ := Aside0.mk (below_step (by repeat (first | (with_reducible first | exact HB.out | apply below_alloc | apply pw_below_drewN | apply below_drew1) | exact HB.out)) hb); clear HO_4; clear HB; have HO_4 := n0_; have HO282 := n1_; have HB := n2_; clear n0_ n1_ n2_; clear hb ho15))
            go_loopg [8, 9] k1 (fun kq v8 v9 w' => ∃ (x8_2 : List Int) (x9_2 : Int), v9 = .int .i64 x9_2 ∧ Aside0 (tillerref05_Weights.l1 kq x4_1 x5_1 x8_2 x9_2 = some r) ∧ Aside0 (kq ≤ k1) ∧ Aside0 (Kd.R (Kd.int .i64) 2 w' w.heap.size (fun _ => True) u4 x4_1) ∧ Aside0 (Kd.R (Kd.int .i32) 72 w' w.heap.size (fun _ => True) v8 x8_2) ∧ Aside0 (Below w.heap.size w w'))
            case atStart => exact ⟨(y280), (0), (by first | rfl | (simp; done) | (simp [*]; done)), H', ⟨Nat.le_refl _⟩, ⟨by (with_reducible repeat (first | apply Kd.R_alloc | apply Kd.R_drewN | apply Kd.R_drew)); exact HO_4.out⟩, ⟨by (with_reducible repeat (first | apply Kd.R_alloc | apply Kd.R_drewN | apply Kd.R_drew)); exact HO282.out⟩, ⟨by repeat (first | (with_reducible first | exact HB.out | apply below_alloc | apply pw_below_drewN | apply below_drew1) | exact HB.out)⟩⟩
            case round =>
              clear H'
              try clear c1
              try clear p2
              try clear q2
              try clear hx2
              try clear c3
              try clear c3b0
              try clear c4
              try clear c4b0
              try clear c5
              try clear c6
              try clear p6
              try clear c7
              try clear c7b0
              try clear c8
              try clear c8b0
              try clear c11
              try clear hx270_0
              try clear hx274_0
              try clear p2
              try clear p270
              try clear p274
              try clear q2
              try clear q270
              try clear q274
              obtain ⟨x8_2, x9_2, rfl, HA, HK2, HO_4, HO_8, HB⟩ := hrel
              cases gk with
              | zero => exact absurd HA.out (by simp [tillerref05_Weights.l1])
              | succ k2 =>
                have H := HA.out
                clear HA
                simp only [tillerref05_Weights.l1] at H
                by_cases c16 : x9_2 < (x4_1.length : Int)
                · rw [if_pos c16] at H
                  have c16b0 : decide (x9_2 < (x4_1.length : Int)) = true := decide_eq_true c16
                  clear c16
                  by_cases c17 : 0 ≤ x9_2
                  · rw [if_pos c17] at H
                    have c17b0 : decide (0 ≤ x9_2) = true := decide_eq_true c17
                    clear c17
                    by_cases c18 : x5_1 = 0
                    · rw [if_pos c18] at H
                      exact absurd H (by simp)
                    · rw [if_neg c18] at H
                      have c18b0 : (x5_1 == 0) = false := beq_eq_false_iff_ne.mpr c18
                      have c18b1 : (x5_1 != 0) = true := bne_iff_ne.mpr c18
                      by_cases c19 : x8_2.length < 35184372088832
                      · rw [if_pos c19] at H
                        have LMc19 := Aside0.mk c19
                        clear c19
                        obtain ⟨y284, hy284⟩ : ∃ y_ : List Int, y_ = (x8_2 ++ [wrap32 (wrap64 (Int.tdiv (wrap64 (65536 * (rd x4_1 x9_2))) x5_1))]) := ⟨_, rfl⟩
                        replace H : (tillerref05_Weights.l1 k2 x4_1 x5_1 y284 (wrap64 (x9_2 + 1))) = some r := by first | (rw [hy284]; with_reducible exact H) | (have H2_ := (Option.bind_some _ _).symm.trans H; rw [hy284]; with_reducible exact H2_) | (have H2_ := (Option.bind_some _ _).symm.trans H; with_reducible exact H2_) | with_reducible exact H | (rw [hy284]; exact H) | exact H
                        have Ny284 := Aside0.mk hy284
                        clear hy284
                        have H' := Aside0.mk H
                        clear H
                        obtain ⟨Ao20, co20, eo20⟩ := Kd.R_slice HO_4.out
                        subst eo20
                        have p283 : 0 ≤ (x9_2 : Int) := of_decide_eq_true (by first | (with_reducible assumption) | assumption)
                        have q283 : x9_2 < (x4_1.length : Int) := of_decide_eq_true (by first | (with_reducible assumption) | assumption)
                        obtain ⟨ad283, e283, hx283_0⟩ := Kd.at_int (Kd.R_reads' HO_4.out).2.2 x9_2 p283 q283
                        cases e283
                        replace p283 := eq_true p283
                        replace q283 := eq_true q283
                        go_wp2_with (first | ((with_reducible refine gate_builtin (b := .append) (xs := #[.tmp 47, .tmp 56]) rfl ?_); at_builtin; refine Kd.R_append (Kd.int .i32) (w0 := w) w.heap.size rfl (.tmp 47) (.tmp 56) 61 72 (.int .i32 0) 4 rfl Try.underlying61 info72 rfl (by decide) (by omega) u8 x8_2 (wrap32 (wrap64 (Int.tdiv (wrap64 (65536 * (rd x4_1 x9_2))) x5_1))) [.int .i32 (wrap32 (wrap64 (Int.tdiv (wrap64 (65536 * (rd x4_1 x9_2))) x5_1)))] (fun _ => True) (fun _ => False) rfl rfl ?aP (fun _ hk => hk.elim) ?aF ?aO ?aB ?aS ?aL ?_; (case aP => exact rfl); (case aB => exact (by repeat (first | (with_reducible first | exact HB.out | apply below_alloc | apply pw_below_drewN | apply below_drew1) | exact HB.out))); (case aF => exact (fun _ _ => trivial)); (case aO => exact (by (with_reducible repeat (first | apply Kd.R_alloc | apply Kd.R_drewN | apply Kd.R_drew)); exact HO_8.out)); (case aS => exact (below_size (by repeat (first | (with_reducible first | exact HB.out | apply below_alloc | apply pw_below_drewN | apply below_drew1) | exact HB.out)))); (case aL => have := LMc19.out; omega); intro v285 w21 ho hb hg hat; rw [← Ny284.out] at ho; have n0_ := Aside0.mk (Kd.R_over' (by (with_reducible repeat (first | apply Kd.R_alloc | apply Kd.R_drewN | apply Kd.R_drew)); exact HO_4.out) (Kd.R_typed (by (with_reducible repeat (first | apply Kd.R_alloc | apply Kd.R_drewN | apply Kd.R_drew)); exact HO_8.out)) (by decide) hg); have n1_ := Aside0.mk (hb); have n2_ := Aside0.mk (ho); clear HO_4; clear HB; clear HO_8; have HO_4 := n0_; have HB := n1_; have HO286 := n2_; clear n0_ n1_ n2_; clear ho hb hg hat))
                        go_roundg k2
                        case measure => have := HK1.out; have := HK2.out; omega
                        case rel => exact ⟨(y284), (wrap64 (x9_2 + 1)), (by first | rfl | (simp; done) | (simp [*]; done)), H', ⟨by have := HK1.out; have := HK2.out; omega⟩, ⟨by (with_reducible repeat (first | apply Kd.R_alloc | apply Kd.R_drewN | apply Kd.R_drew)); exact HO_4.out⟩, ⟨by (with_reducible repeat (first | apply Kd.R_alloc | apply Kd.R_drewN | apply Kd.R_drew)); exact HO286.out⟩, ⟨by repeat (first | (with_reducible first | exact HB.out | apply below_alloc | apply pw_below_drewN | apply below_drew1) | exact HB.out)⟩⟩
                      · rw [if_neg c19] at H
                        exact absurd H (by simp)
                  · rw [if_neg c17] at H
                    exact absurd H (by simp)
                · rw [if_neg c16] at H
                  have c16b0 : decide (x9_2 < (x4_1.length : Int)) = false := decide_eq_false c16
                  clear c16
                  obtain rfl := Option.some.inj H
                  obtain ⟨Ao22, co22, eo22⟩ := Kd.R_slice HO_4.out
                  subst eo22
                  go_wp2
                  go_ret
                  exact ⟨_, by first | rfl | (simp [errW_none, errW_some] <;> rfl) | (simp [*, errW_none, errW_some] <;> rfl), by (with_reducible repeat (first | apply Kd.R_alloc | apply Kd.R_drewN | apply Kd.R_drew)); exact HO_8.out, by repeat (first | (with_reducible first | exact HB.out | apply below_alloc | apply pw_below_drewN | apply below_drew1) | exact HB.out)⟩
    · rw [if_neg c4] at H
      exact absurd H (by simp)
  · rw [if_neg c3] at H
    exact absurd H (by simp)

/-! ### tillerref07_Attend: function 32 -/
mutual
def tillerref07_Attend.l0 : Nat → List Int → List (List Int) → List (List Int) → Int → List Int → Int → Int → Option (List Int)
  | 0, _, _, _, _, _, _, _ => none
  | k + 1, x0, x1, x2, x9, x10, x22, x23 => if x23 < x22 then (if x9 = 0 then (none) else (tillerref07_Attend.l1 k x0 x1 x2 x9 x10 x23 (wrap64 (x23 - (Int.tmod x23 x9))) (([] : List Int)) (([] : List Int)) x22 x23 (x1.length : Int) 0)) else (some x10)
def tillerref07_Attend.l1 : Nat → List Int → List (List Int) → List (List Int) → Int → List Int → Int → Int → List Int → List Int → Int → Int → Int → Int → Option (List Int)
  | 0, _, _, _, _, _, _, _, _, _, _, _, _, _ => none
  | k + 1, x0, x1, x2, x9, x10, x11, x12, x13, x14, x22, x23, x34, x35 => if x35 < x34 then (if 0 ≤ x35 then (if x35 < (x1.length : Int) then ((tillerref07_Score.f k x0 (rd_L1 x1 x35) x12 x9).bind fun t297 => (if x13.length < 35184372088832 then (if x35 < (x2.length : Int) then (if 0 ≤ x11 then (if x11 < ((rd_L1 x2 x35).length : Int) then (if x14.length < 35184372088832 then (tillerref07_Attend.l1 k x0 x1 x2 x9 x10 x11 x12 (x13 ++ [t297]) (x14 ++ [rd (rd_L1 x2 x35) x11]) x22 x23 x34 (wrap64 (x35 + 1))) else (none)) else (none)) else (none)) else (none)) else (none))) else (none)) else (none)) else ((tillerref05_Weights.f k x13).bind fun t306 => ((tillerref03_Dot.f k t306 x14).bind fun t309 => (if x10.length < 35184372088832 then (tillerref07_Attend.l0 k x0 x1 x2 x9 (x10 ++ [t309]) x22 (wrap64 (x23 + 1))) else (none))))
end
def tillerref07_Attend.f (k : Nat) (l0 : List Int) (l1 : List (List Int)) (l2 : List (List Int)) (a3 : Int) : Option (List Int) := if a3 = 0 then (none) else (tillerref07_Attend.l0 k l0 l1 l2 (wrap64 ((l0.length : Int) / a3)) (([] : List Int)) (l0.length : Int) 0)
theorem tillerref07_Attend.mono_l : ∀ k, (∀ y0 y1 y2 y3 y4 y5 y6, LeO (tillerref07_Attend.l0 k y0 y1 y2 y3 y4 y5 y6) (tillerref07_Attend.l0 (k + 1) y0 y1 y2 y3 y4 y5 y6)) ∧ (∀ y0 y1 y2 y3 y4 y5 y6 y7 y8 y9 y10 y11 y12, LeO (tillerref07_Attend.l1 k y0 y1 y2 y3 y4 y5 y6 y7 y8 y9 y10 y11 y12) (tillerref07_Attend.l1 (k + 1) y0 y1 y2 y3 y4 y5 y6 y7 y8 y9 y10 y11 y12))
  | 0 => ⟨fun _ _ _ _ _ _ _ r h => by simp [tillerref07_Attend.l0] at h, fun _ _ _ _ _ _ _ _ _ _ _ _ _ r h => by simp [tillerref07_Attend.l1] at h⟩
  | k + 1 => by
    obtain ⟨ih0, ih1⟩ := tillerref07_Attend.mono_l k
    refine ⟨?_, ?_⟩
    · intro y0 y1 y2 y3 y4 y5 y6
      unfold tillerref07_Attend.l0
      repeat' first
      | (with_reducible exact ih0 _ _ _ _ _ _ _)
      | (with_reducible exact ih1 _ _ _ _ _ _ _ _ _ _ _ _ _)
      | (with_reducible exact tillerref03_Dot.mono _ _ _)
      | (with_reducible exact tillerref05_Weights.mono _ _)
      | (with_reducible exact tillerref07_Score.mono _ _ _ _ _)
      | (with_reducible exact LeO.refl _)
      | (with_reducible exact LeO.none _)
      | (with_reducible refine LeO.ite ?_ ?_)
      | (with_reducible refine LeO.bind ?_ (fun _ => ?_))
      | exact ih0 _ _ _ _ _ _ _
      | exact ih1 _ _ _ _ _ _ _ _ _ _ _ _ _
      | exact tillerref03_Dot.mono _ _ _
      | exact tillerref05_Weights.mono _ _
      | exact tillerref07_Score.mono _ _ _ _ _
      | exact LeO.none _
      | refine LeO.ite ?_ ?_
      | refine LeO.bind ?_ (fun _ => ?_)
    · intro y0 y1 y2 y3 y4 y5 y6 y7 y8 y9 y10 y11 y12
      unfold tillerref07_Attend.l1
      repeat' first
      | (with_reducible exact ih0 _ _ _ _ _ _ _)
      | (with_reducible exact ih1 _ _ _ _ _ _ _ _ _ _ _ _ _)
      | (with_reducible exact tillerref03_Dot.mono _ _ _)
      | (with_reducible exact tillerref05_Weights.mono _ _)
      | (with_reducible exact tillerref07_Score.mono _ _ _ _ _)
      | (with_reducible exact LeO.refl _)
      | (with_reducible exact LeO.none _)
      | (with_reducible refine LeO.ite ?_ ?_)
      | (with_reducible refine LeO.bind ?_ (fun _ => ?_))
      | exact ih0 _ _ _ _ _ _ _
      | exact ih1 _ _ _ _ _ _ _ _ _ _ _ _ _
      | exact tillerref03_Dot.mono _ _ _
      | exact tillerref05_Weights.mono _ _
      | exact tillerref07_Score.mono _ _ _ _ _
      | exact LeO.none _
      | refine LeO.ite ?_ ?_
      | refine LeO.bind ?_ (fun _ => ?_)
theorem tillerref07_Attend.mono : ∀ a0 a1 a2 a3 k, LeO (tillerref07_Attend.f k a0 a1 a2 a3) (tillerref07_Attend.f (k + 1) a0 a1 a2 a3) := by
  intro a0 a1 a2 a3 k
  obtain ⟨ih0, ih1⟩ := tillerref07_Attend.mono_l k
  unfold tillerref07_Attend.f
  repeat' first
      | (with_reducible exact ih0 _ _ _ _ _ _ _)
      | (with_reducible exact ih1 _ _ _ _ _ _ _ _ _ _ _ _ _)
      | (with_reducible exact tillerref03_Dot.mono _ _ _)
      | (with_reducible exact tillerref05_Weights.mono _ _)
      | (with_reducible exact tillerref07_Score.mono _ _ _ _ _)
      | (with_reducible exact LeO.refl _)
      | (with_reducible exact LeO.none _)
      | (with_reducible refine LeO.ite ?_ ?_)
      | (with_reducible refine LeO.bind ?_ (fun _ => ?_))
      | exact ih0 _ _ _ _ _ _ _
      | exact ih1 _ _ _ _ _ _ _ _ _ _ _ _ _
      | exact tillerref03_Dot.mono _ _ _
      | exact tillerref05_Weights.mono _ _
      | exact tillerref07_Score.mono _ _ _ _ _
      | exact LeO.none _
      | refine LeO.ite ?_ ?_
      | refine LeO.bind ?_ (fun _ => ?_)
set_option maxHeartbeats 8000000 in
set_option maxRecDepth 100000 in
theorem tillerref07_Attend.calls (k : Nat) (A0 : Option Addr) (c0 : Nat) (l0 : List Int) (A1 : Option Addr) (c1 : Nat) (l1 : List (List Int)) (A2 : Option Addr) (c2 : Nat) (l2 : List (List Int)) (a3 : Int) (r : List Int) (w : World) (hr0 : Kd.C (Kd.int .i32) w A0 l0.length l0) (hc0 : l0.length ≤ c0) (hr1 : Kd.C (Kd.slice 72 (Kd.int .i32)) w A1 l1.length l1) (hc1 : l1.length ≤ c1) (hr2 : Kd.C (Kd.slice 72 (Kd.int .i32)) w A2 l2.length l2) (hc2 : l2.length ≤ c2) (h : tillerref07_Attend.f k l0 l1 l2 a3 = some r) :
    Calls Try.prog 32 #[.slice A0 l0.length c0, .slice A1 l1.length c1, .slice A2 l2.length c2, .int .i64 a3] w fun e w' => ∃ v0_ : Value, e = .returned (v0_) ∧ Kd.R (Kd.int .i32) 72 w' w.heap.size (fun _ => True) v0_ r ∧ Below w.heap.size w w' := by
  have HR0 := Aside0.mk hr0
  have HC0 := Aside0.mk hc0
  clear hr0 hc0
  have HR1 := Aside0.mk hr1
  have HC1 := Aside0.mk hc1
  clear hr1 hc1
  have HR2 := Aside0.mk hr2
  have HC2 := Aside0.mk hc2
  clear hr2 hc2
  have HB := Aside0.mk (Below.refl w.heap.size w)
  have H : (if a3 = 0 then (none) else (tillerref07_Attend.l0 k l0 l1 l2 (wrap64 ((l0.length : Int) / a3)) (([] : List Int)) (l0.length : Int) 0)) = some r := h
  clear h
  by_cases c5 : a3 = 0
  · rw [if_pos c5] at H
    exact absurd H (by simp)
  · rw [if_neg c5] at H
    have c5b0 : (a3 == 0) = false := beq_eq_false_iff_ne.mpr c5
    have c5b1 : (a3 != 0) = true := bne_iff_ne.mpr c5
    obtain ⟨y287, hy287⟩ : ∃ y_ : List Int, y_ = (([] : List Int)) := ⟨_, rfl⟩
    replace H : (tillerref07_Attend.l0 k l0 l1 l2 (wrap64 ((l0.length : Int) / a3)) y287 (l0.length : Int) 0) = some r := by first | (rw [hy287]; with_reducible exact H) | (have H2_ := (Option.bind_some _ _).symm.trans H; rw [hy287]; with_reducible exact H2_) | (have H2_ := (Option.bind_some _ _).symm.trans H; with_reducible exact H2_) | with_reducible exact H | (rw [hy287]; exact H) | exact H
    have Ny287 := Aside0.mk hy287
    clear hy287
    have H' := Aside0.mk H
    clear H
    go_enter Try.func32, Try.ntmps32
    go_wp2_with (first | ((with_reducible refine gate_dst (N := 20) rfl ?_); refine Kd.R_lit (Kd.int .i32) _ 72 ?hg (N := 20) ?hd (xs := ([] : List Int)) (inner := []) (ok := fun _ => True) (okp := fun _ => True) ?hr ?hp (fun _ hk => hk) trivial (Below.refl _ _) (Nat.le_refl _) (by simp) ?_; (case hd => rfl); (case hg => rfl); (case hr => first | (go_simp; done) | (go_simp; rfl)); (case hp => exact (Reps.none _ _)); intro v288 w6 ho7 hb hg_ hnew_; clear hg_ hnew_; (first | rw [← Ny287.out] at ho7 | (simp only [Int.reduceToNat] at ho7; rw [← Ny287.out] at ho7)); have n0_ := Aside0.mk (Kd.R_lower ho7 (below_size (by repeat (first | (with_reducible first | exact HB.out | apply below_alloc | apply pw_below_drewN | apply below_drew1) | exact HB.out)))); have n1_ := Aside0.mk (below_step (by repeat (first | (with_reducible first | exact HB.out | apply below_alloc | apply pw_below_drewN | apply below_drew1) | exact HB.out)) hb); clear HB; have HO289 := n0_; have HB := n1_; clear n0_ n1_; clear hb ho7))
    go_loopg [10, 23] k (fun kq v10 v23 w' => ∃ (x10_1 : List Int) (x23_1 : Int), v23 = .int .i64 x23_1 ∧ Aside0 (tillerref07_Attend.l0 kq l0 l1 l2 (wrap64 ((l0.length : Int) / a3)) x10_1 (l0.length : Int) x23_1 = some r) ∧ Aside0 (kq ≤ k) ∧ Aside0 (Kd.R (Kd.int .i32) 72 w' w.heap.size (fun _ => True) v10 x10_1) ∧ Aside0 (Below w.heap.size w w'))
    case atStart => exact ⟨(y287), (0), (by first | rfl | (simp; done) | (simp [*]; done)), H', ⟨Nat.le_refl _⟩, ⟨by (with_reducible repeat (first | apply Kd.R_alloc | apply Kd.R_drewN | apply Kd.R_drew)); exact HO289.out⟩, ⟨by repeat (first | (with_reducible first | exact HB.out | apply below_alloc | apply pw_below_drewN | apply below_drew1) | exact HB.out)⟩⟩
    case round =>
      clear H'
      try clear c1
      try clear c2
      try clear p2
      try clear c3
      try clear c5
      try clear c5b0
      try clear c5b1
      try clear p6
      obtain ⟨x10_1, x23_1, rfl, HA, HK1, HO_10, HB⟩ := hrel
      cases gk with
      | zero => exact absurd HA.out (by simp [tillerref07_Attend.l0])
      | succ k1 =>
        have H := HA.out
        clear HA
        simp only [tillerref07_Attend.l0] at H
        by_cases c8 : x23_1 < (l0.length : Int)
        · rw [if_pos c8] at H
          have c8b0 : decide (x23_1 < (l0.length : Int)) = true := decide_eq_true c8
          clear c8
          by_cases c9 : (wrap64 ((l0.length : Int) / a3)) = 0
          · rw [if_pos c9] at H
            exact absurd H (by simp)
          · rw [if_neg c9] at H
            have c9b0 : ((wrap64 ((l0.length : Int) / a3)) == 0) = false := beq_eq_false_iff_ne.mpr c9
            have c9b1 : ((wrap64 ((l0.length : Int) / a3)) != 0) = true := bne_iff_ne.mpr c9
            obtain ⟨y290, hy290⟩ : ∃ y_ : List Int, y_ = (([] : List Int)) := ⟨_, rfl⟩
            replace H : (tillerref07_Attend.l1 k1 l0 l1 l2 (wrap64 ((l0.length : Int) / a3)) x10_1 x23_1 (wrap64 (x23_1 - (Int.tmod x23_1 (wrap64 ((l0.length : Int) / a3))))) y290 (([] : List Int)) (l0.length : Int) x23_1 (l1.length : Int) 0) = some r := by first | (rw [hy290]; with_reducible exact H) | (have H2_ := (Option.bind_some _ _).symm.trans H; rw [hy290]; with_reducible exact H2_) | (have H2_ := (Option.bind_some _ _).symm.trans H; with_reducible exact H2_) | with_reducible exact H | (rw [hy290]; exact H) | exact H
            have Ny290 := Aside0.mk hy290
            clear hy290
            obtain ⟨y293, hy293⟩ : ∃ y_ : List Int, y_ = (([] : List Int)) := ⟨_, rfl⟩
            replace H : (tillerref07_Attend.l1 k1 l0 l1 l2 (wrap64 ((l0.length : Int) / a3)) x10_1 x23_1 (wrap64 (x23_1 - (Int.tmod x23_1 (wrap64 ((l0.length : Int) / a3))))) y290 y293 (l0.length : Int) x23_1 (l1.length : Int) 0) = some r := by first | (rw [hy293]; with_reducible exact H) | (have H2_ := (Option.bind_some _ _).symm.trans H; rw [hy293]; with_reducible exact H2_) | (have H2_ := (Option.bind_some _ _).symm.trans H; with_reducible exact H2_) | with_reducible exact H | (rw [hy293]; exact H) | exact H
            have Ny293 := Aside0.mk hy293
            clear hy293
            have H' := Aside0.mk H
            clear H
            go_wp2_with (first | ((with_reducible refine gate_dst (N := 31) rfl ?_); refine Kd.R_lit (Kd.int .i32) _ 72 ?hg (N := 31) ?hd (xs := ([] : List Int)) (inner := []) (ok := fun _ => True) (okp := fun _ => True) ?hr ?hp (fun _ hk => hk) trivial (Below.refl _ _) (Nat.le_refl _) (by simp) ?_; (case hd => rfl); (case hg => rfl); (case hr => first | (go_simp; done) | (go_simp; rfl)); (case hp => exact (Reps.none _ _)); intro v291 w10 ho11 hb hg_ hnew_; clear hg_ hnew_; (first | rw [← Ny290.out] at ho11 | (simp only [Int.reduceToNat] at ho11; rw [← Ny290.out] at ho11)); have n0_ := Aside0.mk (Kd.R_elder' (by (with_reducible repeat (first | apply Kd.R_alloc | apply Kd.R_drewN | apply Kd.R_drew)); exact HO_10.out) (Kd.R_base ho11) hb); have n1_ := Aside0.mk (Kd.R_lower (Kd.R_new' ho11 (Kd.R_lt (by (with_reducible repeat (first | apply Kd.R_alloc | apply Kd.R_drewN | apply Kd.R_drew)); exact HO_10.out))) (below_size (by repeat (first | (with_reducible first | exact HB.out | apply below_alloc | apply pw_below_drewN | apply below_drew1) | exact HB.out)))); have n2_ := Aside0.mk (below_step (by repeat (first | (with_reducible first | exact HB.out | apply below_alloc | apply pw_below_drewN | apply below_drew1) | exact HB.out)) hb); clear HO_10; clear HB; have HO_10 := n0_; have HO292 := n1_; have HB := n2_; clear n0_ n1_ n2_; clear hb ho11) | ((with_reducible refine gate_dst (N := 32) rfl ?_); refine Kd.R_lit (Kd.int .i32) _ 72 ?hg (N := 32) ?hd (xs := ([] : List Int)) (inner := []) (ok := fun _ => True) (okp := fun _ => True) ?hr ?hp (fun _ hk => hk) trivial (Below.refl _ _) (Nat.le_refl _) (by simp) ?_; (case hd => rfl); (case hg => rfl); (case hr => first | (go_simp; done) | (go_simp; rfl)); (case hp => exact (Reps.none _ _)); intro v294 w12 ho13 hb hg_ hnew_; clear hg_ hnew_; (first | rw [← Ny293.out] at ho13 | (simp only [Int.reduceToNat] at ho13; rw [← Ny293.out] at ho13)); have n0_ := Aside0.mk (Kd.R_elder' (by (with_reducible repeat (first | apply Kd.R_alloc | apply Kd.R_drewN | apply Kd.R_drew)); exact HO_10.out) (Kd.R_base ho13) hb); have n1_ := Aside0.mk (Kd.R_elder' (by (with_reducible repeat (first | apply Kd.R_alloc | apply Kd.R_drewN | apply Kd.R_drew)); exact HO292.out) (Kd.R_base ho13) hb); have n2_ := Aside0.mk (Kd.R_lower (Kd.R_new' (Kd.R_new' ho13 (Kd.R_lt (by (with_reducible repeat (first | apply Kd.R_alloc | apply Kd.R_drewN | apply Kd.R_drew)); exact HO_10.out))) (Kd.R_lt (by (with_reducible repeat (first | apply Kd.R_alloc | apply Kd.R_drewN | apply Kd.R_drew)); exact HO292.out))) (below_size (by repeat (first | (with_reducible first | exact HB.out | apply below_alloc | apply pw_below_drewN | apply below_drew1) | exact HB.out)))); have n3_ := Aside0.mk (below_step (by repeat (first | (with_reducible first | exact HB.out | apply below_alloc | apply pw_below_drewN | apply below_drew1) | exact HB.out)) hb); clear HO_10; clear HO292; clear HB; have HO_10 := n0_; have HO292 := n1_; have HO295 := n2_; have HB := n3_; clear n0_ n1_ n2_ n3_; clear hb ho13))
            go_loopg [13, 14, 35] k1 (fun kq v13 v14 v35 w' => ∃ (x13_2 : List Int) (x14_2 : List Int) (x35_2 : Int), v35 = .int .i64 x35_2 ∧ Aside0 (tillerref07_Attend.l1 kq l0 l1 l2 (wrap64 ((l0.length : Int) / a3)) x10_1 x23_1 (wrap64 (x23_1 - (Int.tmod x23_1 (wrap64 ((l0.length : Int) / a3))))) x13_2 x14_2 (l0.length : Int) x23_1 (l1.length : Int) x35_2 = some r) ∧ Aside0 (kq ≤ k1) ∧ Aside0 (Kd.R (Kd.int .i32) 72 w' w.heap.size (fun k_ => some k_ ≠ (v13 : Value).ownBlock ∧ some k_ ≠ (v14 : Value).ownBlock) u10 x10_1) ∧ Aside0 (Kd.R (Kd.int .i32) 72 w' w.heap.size (fun k_ => some k_ ≠ (u10 : Value).ownBlock ∧ some k_ ≠ (v14 : Value).ownBlock) v13 x13_2) ∧ Aside0 (Kd.R (Kd.int .i32) 72 w' w.heap.size (fun k_ => some k_ ≠ (u10 : Value).ownBlock ∧ some k_ ≠ (v13 : Value).ownBlock) v14 x14_2) ∧ Aside0 (Below w.heap.size w w'))
            case atStart => exact ⟨(y290), (y293), (0), (by first | rfl | (simp; done) | (simp [*]; done)), H', ⟨Nat.le_refl _⟩, ⟨by (with_reducible repeat (first | apply Kd.R_alloc | apply Kd.R_drewN | apply Kd.R_drew)); exact Kd.R_mono HO_10.out (fun _ hk => ⟨hk.1.2, hk.2⟩)⟩, ⟨by (with_reducible repeat (first | apply Kd.R_alloc | apply Kd.R_drewN | apply Kd.R_drew)); exact Kd.R_mono HO292.out (fun _ hk => ⟨hk.1.2, hk.2⟩)⟩, ⟨by (with_reducible repeat (first | apply Kd.R_alloc | apply Kd.R_drewN | apply Kd.R_drew)); exact Kd.R_mono HO295.out (fun _ hk => ⟨hk.1.2, hk.2⟩)⟩, ⟨by repeat (first | (with_reducible first | exact HB.out | apply below_alloc | apply pw_below_drewN | apply below_drew1) | exact HB.out)⟩⟩
            case round =>
              clear H'
              try clear c1
              try clear c2
              try clear p2
              try clear c3
              try clear c5
              try clear c5b0
              try clear c5b1
              try clear p6
              try clear c8
              try clear c8b0
              try clear c9
              try clear c9b0
              try clear c9b1
              try clear p2
              try clear p6
              obtain ⟨x13_2, x14_2, x35_2, rfl, HA, HK2, HO_10, HO_13, HO_14, HB⟩ := hrel
              cases gk with
              | zero => exact absurd HA.out (by simp [tillerref07_Attend.l1])
              | succ k2 =>
                have H := HA.out
                clear HA
                simp only [tillerref07_Attend.l1] at H
                by_cases c14 : x35_2 < (l1.length : Int)
                · rw [if_pos c14] at H
                  have c14b0 : decide (x35_2 < (l1.length : Int)) = true := decide_eq_true c14
                  clear c14
                  by_cases c15 : 0 ≤ x35_2
                  · rw [if_pos c15] at H
                    have c15b0 : decide (0 ≤ x35_2) = true := decide_eq_true c15
                    clear c15
                    by_cases c16 : x35_2 < (l1.length : Int)
                    · rw [if_pos c16] at H
                      have c16b0 : decide (x35_2 < (l1.length : Int)) = true := decide_eq_true c16
                      clear c16
                      replace H := Option.bind_eq_some_iff.mp H
                      obtain ⟨t297, A170, H⟩ := H
                      replace H : (if x13_2.length < 35184372088832 then (if x35_2 < (l2.length : Int) then (if 0 ≤ x23_1 then (if x23_1 < ((rd_L1 l2 x35_2).length : Int) then (if x14_2.length < 35184372088832 then (tillerref07_Attend.l1 k2 l0 l1 l2 (wrap64 ((l0.length : Int) / a3)) x10_1 x23_1 (wrap64 (x23_1 - (Int.tmod x23_1 (wrap64 ((l0.length : Int) / a3))))) (x13_2 ++ [t297]) (x14_2 ++ [rd (rd_L1 l2 x35_2) x23_1]) (l0.length : Int) x23_1 (l1.length : Int) (wrap64 (x35_2 + 1))) else (none)) else (none)) else (none)) else (none)) else (none)) = some r := H
                      have A17 := Aside0.mk A170
                      clear A170
                      by_cases c18 : x13_2.length < 35184372088832
                      · rw [if_pos c18] at H
                        have LMc18 := Aside0.mk c18
                        clear c18
                        obtain ⟨y298, hy298⟩ : ∃ y_ : List Int, y_ = (x13_2 ++ [t297]) := ⟨_, rfl⟩
                        replace H : (if x35_2 < (l2.length : Int) then (if 0 ≤ x23_1 then (if x23_1 < ((rd_L1 l2 x35_2).length : Int) then (if x14_2.length < 35184372088832 then (tillerref07_Attend.l1 k2 l0 l1 l2 (wrap64 ((l0.length : Int) / a3)) x10_1 x23_1 (wrap64 (x23_1 - (Int.tmod x23_1 (wrap64 ((l0.length : Int) / a3))))) y298 (x14_2 ++ [rd (rd_L1 l2 x35_2) x23_1]) (l0.length : Int) x23_1 (l1.length : Int) (wrap64 (x35_2 + 1))) else (none)) else (none)) else (none)) else (none)) = some r := by first | (rw [hy298]; with_reducible exact H) | (have H2_ := (Option.bind_some _ _).symm.trans H; rw [hy298]; with_reducible exact H2_) | (have H2_ := (Option.bind_some _ _).symm.trans H; with_reducible exact H2_) | with_reducible exact H | (rw [hy298]; exact H) | exact H
                        have Ny298 := Aside0.mk hy298
                        clear hy298
                        by_cases c19 : x35_2 < (l2.length : Int)
                        · rw [if_pos c19] at H
                          have c19b0 : decide (x35_2 < (l2.length : Int)) = true := decide_eq_true c19
                          clear c19
                          by_cases c20 : 0 ≤ x23_1
                          · rw [if_pos c20] at H
                            have c20b0 : decide (0 ≤ x23_1) = true := decide_eq_true c20
                            clear c20
                            by_cases c21 : x23_1 < ((rd_L1 l2 x35_2).length : Int)
                            · rw [if_pos c21] at H
                              have c21b0 : decide (x23_1 < ((rd_L1 l2 x35_2).length : Int)) = true := decide_eq_true c21
                              clear c21
                              by_cases c22 : x14_2.length < 35184372088832
                              · rw [if_pos c22] at H
                                have LMc22 := Aside0.mk c22
                                clear c22
                                obtain ⟨y303, hy303⟩ : ∃ y_ : List Int, y_ = (x14_2 ++ [rd (rd_L1 l2 x35_2) x23_1]) := ⟨_, rfl⟩
                                replace H : (tillerref07_Attend.l1 k2 l0 l1 l2 (wrap64 ((l0.length : Int) / a3)) x10_1 x23_1 (wrap64 (x23_1 - (Int.tmod x23_1 (wrap64 ((l0.length : Int) / a3))))) y298 y303 (l0.length : Int) x23_1 (l1.length : Int) (wrap64 (x35_2 + 1))) = some r := by first | (rw [hy303]; with_reducible exact H) | (have H2_ := (Option.bind_some _ _).symm.trans H; rw [hy303]; with_reducible exact H2_) | (have H2_ := (Option.bind_some _ _).symm.trans H; with_reducible exact H2_) | with_reducible exact H | (rw [hy303]; exact H) | exact H
                                have Ny303 := Aside0.mk hy303
                                clear hy303
                                have H' := Aside0.mk H
                                clear H
                                have p296 : 0 ≤ (x35_2 : Int) := of_decide_eq_true (by first | (with_reducible assumption) | assumption)
                                have q296 : x35_2 < (l1.length : Int) := of_decide_eq_true (by first | (with_reducible assumption) | assumption)
                                obtain ⟨ad296, A296_0, c296_0, e296, hx296_0, hl296_0, hi296_0⟩ := at_L1 HR1.out x35_2 p296 q296
                                cases e296
                                (first | replace hx296_0 := (HB.out.cell (World.block_lt_of_cell? w _ hx296_0)).trans hx296_0 | skip)
                                have HR296_0 := Aside0.mk hi296_0
                                have HC296_0 := Aside0.mk hl296_0
                                clear hi296_0 hl296_0
                                replace p296 := eq_true p296
                                replace q296 := eq_true q296
                                go_wp2_with (first | ((with_reducible refine gate_callee (f := 34) rfl ?_); refine goesL_ (some 46) rfl rfl Try.func34 (by kernel_rfl) rfl #[.slice A0 l0.length c0, .slice A296_0 (rd_L1 l1 x35_2).length c296_0, .int .i64 (wrap64 (x23_1 - (Int.tmod x23_1 (wrap64 ((l0.length : Int) / a3))))), .int .i64 (wrap64 ((l0.length : Int) / a3))] rfl (by (try simp only [List.map_toArray, List.map_cons, List.map_nil]); first | done | rfl | (simp only [List.length_drop, List.length_take]; rfl)) ?_; (with_reducible refine (tillerref07_Score.calls k2 _ _ l0 _ _ (rd_L1 l1 x35_2) (wrap64 (x23_1 - (Int.tmod x23_1 (wrap64 ((l0.length : Int) / a3))))) (wrap64 ((l0.length : Int) / a3)) t297 _ ?side1 ?side2 ?side3 ?side4 A17.out).mono ?_); (case side1 => repeat (first | exact (Kd.C_below HR0.out HB.out) | (with_reducible refine Kd.C_alloc ?_ _) | (with_reducible refine Kd.C_drewN ?_ _) | (with_reducible refine Kd.C_drew ?_))); (case side2 => exact HC0.out); (case side3 => repeat (first | exact (Kd.C_below HR296_0.out HB.out) | (with_reducible refine Kd.C_alloc ?_ _) | (with_reducible refine Kd.C_drewN ?_ _) | (with_reducible refine Kd.C_drew ?_))); (case side4 => exact HC296_0.out); rintro e w' ⟨rfl, ⟨nd, rfl⟩⟩; refine ⟨_, rfl, ?_⟩) | ((with_reducible refine gate_builtin (b := .append) (xs := #[.tmp 38, .tmp 47]) rfl ?_); at_builtin; refine Kd.R_append (Kd.int .i32) (w0 := w) w.heap.size rfl (.tmp 38) (.tmp 47) 61 72 (.int .i32 0) 4 rfl Try.underlying61 info72 rfl (by decide) (by omega) u13 x13_2 t297 [.int .i32 t297] (fun k_ => some k_ ≠ (u10 : Value).ownBlock ∧ some k_ ≠ (u14 : Value).ownBlock) (fun _ => False) rfl rfl ?aP (fun _ hk => hk.elim) ?aF ?aO ?aB ?aS ?aL ?_; (case aP => exact rfl); (case aB => exact (by repeat (first | (with_reducible first | exact HB.out | apply below_alloc | apply pw_below_drewN | apply below_drew1) | exact HB.out))); (case aF => exact (fun k_ hk => ⟨Kd.fresh' (Kd.R_lt (by (with_reducible repeat (first | apply Kd.R_alloc | apply Kd.R_drewN | apply Kd.R_drew)); exact HO_10.out)) k_ hk, Kd.fresh' (Kd.R_lt (by (with_reducible repeat (first | apply Kd.R_alloc | apply Kd.R_drewN | apply Kd.R_drew)); exact HO_14.out)) k_ hk⟩)); (case aO => exact (by (with_reducible repeat (first | apply Kd.R_alloc | apply Kd.R_drewN | apply Kd.R_drew)); exact HO_13.out)); (case aS => exact (below_size (by repeat (first | (with_reducible first | exact HB.out | apply below_alloc | apply pw_below_drewN | apply below_drew1) | exact HB.out)))); (case aL => have := LMc18.out; omega); intro v299 w23 ho hb hg hat; rw [← Ny298.out] at ho; have n0_ := Aside0.mk (Kd.R_after (ok := (fun k_ => some k_ ≠ (u14 : Value).ownBlock)) (by (with_reducible repeat (first | apply Kd.R_alloc | apply Kd.R_drewN | apply Kd.R_drew)); exact Kd.R_mono HO_10.out (fun _ hk => ⟨hk.2, hk.1⟩)) hg hat); have n1_ := Aside0.mk (Kd.R_after (ok := (fun k_ => some k_ ≠ (u10 : Value).ownBlock)) (by (with_reducible repeat (first | apply Kd.R_alloc | apply Kd.R_drewN | apply Kd.R_drew)); exact HO_14.out) hg hat); have n2_ := Aside0.mk (hb); have n3_ := Aside0.mk (ho); clear HO_10; clear HO_14; clear HB; clear HO_13; have HO_10 := n0_; have HO_14 := n1_; have HB := n2_; have HO300 := n3_; clear n0_ n1_ n2_ n3_; clear ho hb hg hat; have p301 : 0 ≤ (x35_2 : Int) := of_decide_eq_true (by first | (with_reducible assumption) | assumption); have q301 : x35_2 < (l2.length : Int) := of_decide_eq_true (by first | (with_reducible assumption) | assumption); obtain ⟨ad301, A301_0, c301_0, e301, hx301_0, hl301_0, hi301_0⟩ := at_L1 HR2.out x35_2 p301 q301; cases e301; (first | replace hx301_0 := (HB.out.cell (World.block_lt_of_cell? w _ hx301_0)).trans hx301_0 | skip); have HR301_0 := Aside0.mk hi301_0; have HC301_0 := Aside0.mk hl301_0; clear hi301_0 hl301_0; replace p301 := eq_true p301; replace q301 := eq_true q301; have p302 : 0 ≤ (x23_1 : Int) := of_decide_eq_true (by first | (with_reducible assumption) | assumption); have q302 : x23_1 < ((rd_L1 l2 x35_2).length : Int) := of_decide_eq_true (by first | (with_reducible assumption) | assumption); obtain ⟨ad302, e302, hx302_0⟩ := Kd.at_int HR301_0.out x23_1 p302 q302; cases e302; (first | replace hx302_0 := (HB.out.cell (World.block_lt_of_cell? w _ hx302_0)).trans hx302_0 | skip); replace p302 := eq_true p302; replace q302 := eq_true q302) | ((with_reducible refine gate_builtin (b := .append) (xs := #[.tmp 49, .tmp 57]) rfl ?_); at_builtin; refine Kd.R_append (Kd.int .i32) (w0 := w) w.heap.size rfl (.tmp 49) (.tmp 57) 61 72 (.int .i32 0) 4 rfl Try.underlying61 info72 rfl (by decide) (by omega) u14 x14_2 (rd (rd_L1 l2 x35_2) x23_1) [.int .i32 (rd (rd_L1 l2 x35_2) x23_1)] (fun k_ => some k_ ≠ (u10 : Value).ownBlock ∧ some k_ ≠ (v299 : Value).ownBlock) (fun _ => False) rfl rfl ?aP (fun _ hk => hk.elim) ?aF ?aO ?aB ?aS ?aL ?_; (case aP => exact rfl); (case aB => exact (by repeat (first | (with_reducible first | exact HB.out | apply below_alloc | apply pw_below_drewN | apply below_drew1) | exact HB.out))); (case aF => exact (fun k_ hk => ⟨Kd.fresh' (Kd.R_lt (by (with_reducible repeat (first | apply Kd.R_alloc | apply Kd.R_drewN | apply Kd.R_drew)); exact HO_10.out)) k_ hk, Kd.fresh' (Kd.R_lt (by (with_reducible repeat (first | apply Kd.R_alloc | apply Kd.R_drewN | apply Kd.R_drew)); exact HO300.out)) k_ hk⟩)); (case aO => exact (by (with_reducible repeat (first | apply Kd.R_alloc | apply Kd.R_drewN | apply Kd.R_drew)); exact HO_14.out)); (case aS => exact (below_size (by repeat (first | (with_reducible first | exact HB.out | apply below_alloc | apply pw_below_drewN | apply below_drew1) | exact HB.out)))); (case aL => have := LMc22.out; omega); intro v304 w24 ho hb hg hat; rw [← Ny303.out] at ho; have n0_ := Aside0.mk (Kd.R_after (ok := (fun k_ => some k_ ≠ (v299 : Value).ownBlock)) (by (with_reducible repeat (first | apply Kd.R_alloc | apply Kd.R_drewN | apply Kd.R_drew)); exact Kd.R_mono HO_10.out (fun _ hk => ⟨hk.2, hk.1⟩)) hg hat); have n1_ := Aside0.mk (Kd.R_after (ok := (fun k_ => some k_ ≠ (u10 : Value).ownBlock)) (by (with_reducible repeat (first | apply Kd.R_alloc | apply Kd.R_drewN | apply Kd.R_drew)); exact HO300.out) hg hat); have n2_ := Aside0.mk (hb); have n3_ := Aside0.mk (ho); clear HO_10; clear HO300; clear HB; clear HO_14; have HO_10 := n0_; have HO300 := n1_; have HB := n2_; have HO305 := n3_; clear n0_ n1_ n2_ n3_; clear ho hb hg hat))
                                go_roundg k2
                                case measure => have := HK1.out; have := HK2.out; omega
                                case rel => exact ⟨(y298), (y303), (wrap64 (x35_2 + 1)), (by first | rfl | (simp; done) | (simp [*]; done)), H', ⟨by have := HK1.out; have := HK2.out; omega⟩, ⟨by (with_reducible repeat (first | apply Kd.R_alloc | apply Kd.R_drewN | apply Kd.R_drew)); exact HO_10.out⟩, ⟨by (with_reducible repeat (first | apply Kd.R_alloc | apply Kd.R_drewN | apply Kd.R_drew)); exact HO300.out⟩, ⟨by (with_reducible repeat (first | apply Kd.R_alloc | apply Kd.R_drewN | apply Kd.R_drew)); exact HO305.out⟩, ⟨by repeat (first | (with_reducible first | exact HB.out | apply below_alloc | apply pw_below_drewN | apply below_drew1) | exact HB.out)⟩⟩
                              · rw [if_neg c22] at H
                                exact absurd H (by simp)
                            · rw [if_neg c21] at H
                              exact absurd H (by simp)
                          · rw [if_neg c20] at H
                            exact absurd H (by simp)
                        · rw [if_neg c19] at H
                          exact absurd H (by simp)
                      · rw [if_neg c18] at H
                        exact absurd H (by simp)
                    · rw [if_neg c16] at H
                      exact absurd H (by simp)
                  · rw [if_neg c15] at H
                    exact absurd H (by simp)
                · rw [if_neg c14] at H
                  have c14b0 : decide (x35_2 < (l1.length : Int)) = false := decide_eq_false c14
                  clear c14
                  replace H := Option.bind_eq_some_iff.mp H
                  obtain ⟨t306, A250, H⟩ := H
                  replace H : ((tillerref03_Dot.f k2 t306 x14_2).bind fun t309 => (if x10_1.length < 35184372088832 then (tillerref07_Attend.l0 k2 l0 l1 l2 (wrap64 ((l0.length : Int) / a3)) (x10_1 ++ [t309]) (l0.length : Int) (wrap64 (x23_1 + 1))) else (none))) = some r := H
                  have A25 := Aside0.mk A250
                  clear A250
                  replace H := Option.bind_eq_some_iff.mp H
                  obtain ⟨t309, A260, H⟩ := H
                  replace H : (if x10_1.length < 35184372088832 then (tillerref07_Attend.l0 k2 l0 l1 l2 (wrap64 ((l0.length : Int) / a3)) (x10_1 ++ [t309]) (l0.length : Int) (wrap64 (x23_1 + 1))) else (none)) = some r := H
                  have A26 := Aside0.mk A260
                  clear A260
                  by_cases c27 : x10_1.length < 35184372088832
                  · rw [if_pos c27] at H
                    have LMc27 := Aside0.mk c27
                    clear c27
                    obtain ⟨y310, hy310⟩ : ∃ y_ : List Int, y_ = (x10_1 ++ [t309]) := ⟨_, rfl⟩
                    replace H : (tillerref07_Attend.l0 k2 l0 l1 l2 (wrap64 ((l0.length : Int) / a3)) y310 (l0.length : Int) (wrap64 (x23_1 + 1))) = some r := by first | (rw [hy310]; with_reducible exact H) | (have H2_ := (Option.bind_some _ _).symm.trans H; rw [hy310]; with_reducible exact H2_) | (have H2_ := (Option.bind_some _ _).symm.trans H; with_reducible exact H2_) | with_reducible exact H | (rw [hy310]; exact H) | exact H
                    have Ny310 := Aside0.mk hy310
                    clear hy310
                    have H' := Aside0.mk H
                    clear H
                    obtain ⟨Ao28, co28, eo28⟩ := Kd.R_slice HO_13.out
                    subst eo28
                    go_wp2_with (first | ((with_reducible refine gate_callee (f := 56) rfl ?_); refine goesL_ (some 62) rfl rfl Try.func56 (by kernel_rfl) rfl #[.slice Ao28 x13_2.length co28] rfl (by (try simp only [List.map_toArray, List.map_cons, List.map_nil]); first | done | rfl | (simp only [List.length_drop, List.length_take]; rfl)) ?_; (with_reducible refine (tillerref05_Weights.calls k2 _ _ x13_2 t306 _ ?side1 ?side2 A25.out).mono ?_); (case side1 => repeat (first | exact (Kd.R_reads' HO_13.out).2.2 | (with_reducible refine Kd.C_alloc ?_ _) | (with_reducible refine Kd.C_drewN ?_ _) | (with_reducible refine Kd.C_drew ?_))); (case side2 => exact (Kd.R_reads' HO_13.out).2.1); rintro e w29 ⟨v307, rfl, ho0, hb⟩; refine ⟨_, rfl, ?_⟩; have n0_ := Aside0.mk (Kd.R_elder' (by (with_reducible repeat (first | apply Kd.R_alloc | apply Kd.R_drewN | apply Kd.R_drew)); exact HO_10.out) (Kd.R_base ho0) hb); have n1_ := Aside0.mk (Kd.R_elder' (by (with_reducible repeat (first | apply Kd.R_alloc | apply Kd.R_drewN | apply Kd.R_drew)); exact HO_13.out) (Kd.R_base ho0) hb); have n2_ := Aside0.mk (Kd.R_elder' (by (with_reducible repeat (first | apply Kd.R_alloc | apply Kd.R_drewN | apply Kd.R_drew)); exact HO_14.out) (Kd.R_base ho0) hb); have n3_ := Aside0.mk (Kd.R_lower (Kd.R_new' (Kd.R_new' (Kd.R_new' ho0 (Kd.R_lt (by (with_reducible repeat (first | apply Kd.R_alloc | apply Kd.R_drewN | apply Kd.R_drew)); exact HO_10.out))) (Kd.R_lt (by (with_reducible repeat (first | apply Kd.R_alloc | apply Kd.R_drewN | apply Kd.R_drew)); exact HO_13.out))) (Kd.R_lt (by (with_reducible repeat (first | apply Kd.R_alloc | apply Kd.R_drewN | apply Kd.R_drew)); exact HO_14.out))) (below_size (by repeat (first | (with_reducible first | exact HB.out | apply below_alloc | apply pw_below_drewN | apply below_drew1) | exact HB.out)))); have n4_ := Aside0.mk (below_step (by repeat (first | (with_reducible first | exact HB.out | apply below_alloc | apply pw_below_drewN | apply below_drew1) | exact HB.out)) hb); clear HO_10; clear HO_13; clear HO_14; clear HB; have HO_10 := n0_; have HO_13 := n1_; have HO_14 := n2_; have HO308 := n3_; have HB := n4_; clear n0_ n1_ n2_ n3_ n4_; (try clear hb); (try clear hb2); (try clear hk); (try clear hi); (try clear ho0); obtain ⟨Ao30, co30, eo30⟩ := Kd.R_slice HO308.out; subst eo30; obtain ⟨Ao31, co31, eo31⟩ := Kd.R_slice HO_14.out; subst eo31) | ((with_reducible refine gate_callee (f := 55) rfl ?_); refine goesL_ (some 64) rfl rfl Try.func55 (by kernel_rfl) rfl #[.slice Ao30 t306.length co30, .slice Ao31 x14_2.length co31] rfl (by (try simp only [List.map_toArray, List.map_cons, List.map_nil]); first | done | rfl | (simp only [List.length_drop, List.length_take]; rfl)) ?_; (with_reducible refine (tillerref03_Dot.calls k2 _ _ t306 _ _ x14_2 t309 _ ?side1 ?side2 ?side3 ?side4 A26.out).mono ?_); (case side1 => repeat (first | exact (Kd.R_reads' HO308.out).2.2 | (with_reducible refine Kd.C_alloc ?_ _) | (with_reducible refine Kd.C_drewN ?_ _) | (with_reducible refine Kd.C_drew ?_))); (case side2 => exact (Kd.R_reads' HO308.out).2.1); (case side3 => repeat (first | exact (Kd.R_reads' HO_14.out).2.2 | (with_reducible refine Kd.C_alloc ?_ _) | (with_reducible refine Kd.C_drewN ?_ _) | (with_reducible refine Kd.C_drew ?_))); (case side4 => exact (Kd.R_reads' HO_14.out).2.1); rintro e w' ⟨rfl, ⟨nd, rfl⟩⟩; refine ⟨_, rfl, ?_⟩) | ((with_reducible refine gate_builtin (b := .append) (xs := #[.tmp 60, .tmp 65]) rfl ?_); at_builtin; refine Kd.R_append (Kd.int .i32) (w0 := w) w.heap.size rfl (.tmp 60) (.tmp 65) 61 72 (.int .i32 0) 4 rfl Try.underlying61 info72 rfl (by decide) (by omega) u10 x10_1 t309 [.int .i32 t309] (fun k_ => some k_ ≠ (.slice Ao28 x13_2.length co28 : Value).ownBlock ∧ some k_ ≠ (.slice Ao31 x14_2.length co31 : Value).ownBlock ∧ some k_ ≠ (.slice Ao30 t306.length co30 : Value).ownBlock) (fun _ => False) rfl rfl ?aP (fun _ hk => hk.elim) ?aF ?aO ?aB ?aS ?aL ?_; (case aP => exact rfl); (case aB => exact (by repeat (first | (with_reducible first | exact HB.out | apply below_alloc | apply pw_below_drewN | apply below_drew1) | exact HB.out))); (case aF => exact (fun k_ hk => ⟨Kd.fresh' (Kd.R_lt (by (with_reducible repeat (first | apply Kd.R_alloc | apply Kd.R_drewN | apply Kd.R_drew)); exact HO_13.out)) k_ hk, Kd.fresh' (Kd.R_lt (by (with_reducible repeat (first | apply Kd.R_alloc | apply Kd.R_drewN | apply Kd.R_drew)); exact HO_14.out)) k_ hk, Kd.fresh' (Kd.R_lt (by (with_reducible repeat (first | apply Kd.R_alloc | apply Kd.R_drewN | apply Kd.R_drew)); exact HO308.out)) k_ hk⟩)); (case aO => exact (by (with_reducible repeat (first | apply Kd.R_alloc | apply Kd.R_drewN | apply Kd.R_drew)); exact Kd.R_mono HO_10.out (fun _ hk => ⟨hk.1.1, ⟨hk.1.2, hk.2⟩⟩))); (case aS => exact (below_size (by repeat (first | (with_reducible first | exact HB.out | apply below_alloc | apply pw_below_drewN | apply below_drew1) | exact HB.out)))); (case aL => have := LMc27.out; omega); intro v311 w32 ho hb hg hat; rw [← Ny310.out] at ho; have n0_ := Aside0.mk (Kd.R_after (ok := (fun k_ => some k_ ≠ (.slice Ao31 x14_2.length co31 : Value).ownBlock ∧ some k_ ≠ (.slice Ao30 t306.length co30 : Value).ownBlock)) (by (with_reducible repeat (first | apply Kd.R_alloc | apply Kd.R_drewN | apply Kd.R_drew)); exact Kd.R_mono HO_13.out (fun _ hk => ⟨⟨hk.1.2, hk.2⟩, hk.1.1⟩)) hg hat); have n1_ := Aside0.mk (Kd.R_after (ok := (fun k_ => some k_ ≠ (.slice Ao28 x13_2.length co28 : Value).ownBlock ∧ some k_ ≠ (.slice Ao30 t306.length co30 : Value).ownBlock)) (by (with_reducible repeat (first | apply Kd.R_alloc | apply Kd.R_drewN | apply Kd.R_drew)); exact Kd.R_mono HO_14.out (fun _ hk => ⟨⟨hk.1.2, hk.2⟩, hk.1.1⟩)) hg hat); have n2_ := Aside0.mk (Kd.R_after (ok := (fun k_ => some k_ ≠ (.slice Ao28 x13_2.length co28 : Value).ownBlock ∧ some k_ ≠ (.slice Ao31 x14_2.length co31 : Value).ownBlock)) (by (with_reducible repeat (first | apply Kd.R_alloc | apply Kd.R_drewN | apply Kd.R_drew)); exact Kd.R_mono HO308.out (fun _ hk => ⟨⟨hk.1.2, hk.2⟩, hk.1.1.2⟩)) hg hat); have n3_ := Aside0.mk (hb); have n4_ := Aside0.mk (ho); clear HO_13; clear HO_14; clear HO308; clear HB; clear HO_10; have HO_13 := n0_; have HO_14 := n1_; have HO308 := n2_; have HB := n3_; have HO312 := n4_; clear n0_ n1_ n2_ n3_ n4_; clear ho hb hg hat))
                    go_roundg k2
                    case measure => have := HK1.out; have := HK2.out; omega
                    case rel => exact ⟨(y310), (wrap64 (x23_1 + 1)), (by first | rfl | (simp; done) | (simp [*]; done)), H', ⟨by have := HK1.out; have := HK2.out; omega⟩, ⟨by (with_reducible repeat (first | apply Kd.R_alloc | apply Kd.R_drewN | apply Kd.R_drew)); exact Kd.R_mono HO312.out (fun _ hk => trivial)⟩, ⟨by repeat (first | (with_reducible first | exact HB.out | apply below_alloc | apply pw_below_drewN | apply below_drew1) | exact HB.out)⟩⟩
                  · rw [if_neg c27] at H
                    exact absurd H (by simp)
        · rw [if_neg c8] at H
          have c8b0 : decide (x23_1 < (l0.length : Int)) = false := decide_eq_false c8
          clear c8
          obtain rfl := Option.some.inj H
          go_wp2
          go_ret
          exact ⟨_, by first | rfl | (simp [errW_none, errW_some] <;> rfl) | (simp [*, errW_none, errW_some] <;> rfl), by (with_reducible repeat (first | apply Kd.R_alloc | apply Kd.R_drewN | apply Kd.R_drew)); exact HO_10.out, by repeat (first | (with_reducible first | exact HB.out | apply below_alloc | apply pw_below_drewN | apply below_drew1) | exact HB.out)⟩

end Go.Proofs.Ytepbebelbcbciaa.Q
