/- Functions of the program as plain Lean functions, each with a proof that the program's call comes to what it says; and rows of statements over them. No condition but those that the theorems name. Written by a program of this session (myprint.py, over the kit's print with patches of its own). -/
import Derived.Test.YtepbebelbcbciaaQx0
namespace Go.Proofs.Ytepbebelbcbciaa.Q
open Go.RowKit Go.Proofs.YtepbebelbcbciaaW.PrintWords Go.Proofs.YtepbebelbcbciaaW.PrintLast Go.Proofs.YtepbebelbcbciaaW.PrintMore
attribute [local go_sem] max2_int min2_int max_two min_two max_three min_three max_four min_four   -- for this text's walks alone
set_option linter.unusedVariables false
set_option linter.unusedSimpArgs false

/-! ### api_Num_64: function 64 -/
def api_Num_64.f (l0 : List Int) (a1 : Int) : Option (List Int) := if l0.length = 0 ∧ 0 ≤ a1 ∧ a1 < 35184372088832 then some [] else none
set_option maxHeartbeats 8000000 in
set_option maxRecDepth 100000 in
theorem api_Num_64.calls (A0 : Option Addr) (c0 : Nat) (l0 : List Int) (a1 : Int) (r : List Int) (w : World) (hr0 : Kd.C (Kd.int .i32) w A0 l0.length l0) (hc0 : l0.length ≤ c0) (h : api_Num_64.f l0 a1 = some r) (hA : A0 = none := by rfl) (hz : c0 = 0 := by rfl) :
  Calls Try.prog 64 #[.slice A0 l0.length c0, .int .i64 a1] w fun e w' => ∃ v0_ : Value, e = .returned (v0_) ∧ Kd.R (Kd.int .i32) 72 w' w.heap.size (fun _ => True) v0_ r ∧ Below w.heap.size w w' := by
 unfold api_Num_64.f at h
 subst hA
 subst hz
 by_cases c : l0.length = 0 ∧ 0 ≤ a1 ∧ a1 < 35184372088832
 ·rw [if_pos c] at h
  obtain rfl := Option.some.inj h
  obtain ⟨c1, c2, c3⟩ := c
  obtain rfl := List.length_eq_zero_iff.1 c1
  clear hr0 hc0 h c1
  have HB := Aside0.mk (Below.refl w.heap.size w)
  have hw : wrap64 a1 = a1 := by unfold wrap64; omega
  have d1 : decide (a1 < 0) = false := decide_eq_false (by omega)
  have LM : Aside0 (wrap64 a1 < 35184372088832) := Aside0.mk (by rw [hw]; exact c3)
  have C2 : Aside0 (0 ≤ wrap64 a1) := Aside0.mk (by rw [hw]; exact c2)
  obtain ⟨i0, hi0, _, _, _⟩ := info_parts info72
  by_cases c4 : 0 < a1
  ·have d2 : decide (0 < a1) = true := decide_eq_true c4
   clear c2 c3 c4
   go_enter Try.func64, Try.ntmps64
   go_wp2_with (first | (at_builtin; refine Kd.R_append_zeros (Kd.int .i32) (w0 := w) w.heap.size rfl (.tmp 20) (.tmp 21) 61 3 72 (.int .i32 0) 4 rfl Try.underlying61 Try.underlying3 info72 rfl (by decide) (by omega) (.slice none 0 0) [] 0 (wrap64 a1 : Int) (fun _ => True) rfl rfl rfl (fun _ _ => trivial) (Kd.R_nil _ _ _ _ _) C2.out ?aB ?aS ?aL ?_; (case aB => exact bel); (case aS => exact (below_size bel)); (case aL => have := LM.out; simp only [List.length_nil]; omega); intro v1 w1 ho hb hg hat; obtain ⟨A1, cc1, rfl⟩ := Kd.R_slice ho; have HO := Aside0.mk ho; clear HB; have HB := Aside0.mk hb; have hcut := cut_to (P := Try.prog) 61 72 .i64 Try.underlying61 hi0 A1 (([] : List Int) ++ List.replicate (wrap64 a1 : Int).toNat 0).length cc1 0 (by omega) (by omega) (Kd.R_reads' HO.out).2.1; clear ho hb hg hat))
   go_ret
   have HT := Kd.R_take (m := 0) HO.out (Nat.zero_le _)
   exact ⟨_, by first | rfl | (simp; rfl) | (simp [*]; rfl), by (with_reducible repeat (first | apply Kd.R_alloc | apply Kd.R_drewN | apply Kd.R_drew)); exact HT, by repeat (first | (with_reducible first | exact HB.out | apply below_alloc | apply pw_below_drewN | apply below_drew1) | exact HB.out)⟩
  ·have d2 : decide (0 < a1) = false := decide_eq_false c4
   clear c2 c3 c4
   go_enter Try.func64, Try.ntmps64
   go_wp2
   go_ret
   exact ⟨_, rfl, Kd.R_nil _ _ _ _ _, HB.out⟩
 ·rw [if_neg c] at h
  cases h


/-! ### api_Num_37: function 37 -/
mutual
def api_Num_37.l0 : Nat → List (List Int) → Int → List (List Int) → Int → Int → Option (List Int)
 | 0, _, _, _, _, _ => none
 | k + 1, x0, x3, x9, x10, x11 => if x11 < x10 then (if 0 ≤ x11 then (if x11 < (x9.length : Int) then (if (wrap64 (x3 + ((rd_L2 x9 x11).length : Int))) < 0 then (none) else (api_Num_37.l0 k x0 (wrap64 (x3 + ((rd_L2 x9 x11).length : Int))) x9 x10 (wrap64 (x11 + 1)))) else (none)) else (none)) else ((api_Num_64.f ([] : List Int) x3).bind fun t168 => (api_Num_37.l1 k t168 x0 (x0.length : Int) 0))
def api_Num_37.l1 : Nat → List Int → List (List Int) → Int → Int → Option (List Int)
 | 0, _, _, _, _ => none
 | k + 1, x6, x25, x26, x27 => if x27 < x26 then (if 0 ≤ x27 then (if x27 < (x25.length : Int) then (if x6.length + (rd_L2 x25 x27).length < 35184372088832 then (api_Num_37.l1 k (x6 ++ (rd_L2 x25 x27)) x25 x26 (wrap64 (x27 + 1))) else (none)) else (none)) else (none)) else (some x6)
end
def api_Num_37.f (k : Nat) (l0 : List (List Int)) : Option (List Int) := api_Num_37.l0 k l0 0 l0 (l0.length : Int) 0
theorem api_Num_37.mono_l : ∀ k, (∀ y0 y1 y2 y3 y4, LeO (api_Num_37.l0 k y0 y1 y2 y3 y4) (api_Num_37.l0 (k + 1) y0 y1 y2 y3 y4)) ∧ (∀ y0 y1 y2 y3, LeO (api_Num_37.l1 k y0 y1 y2 y3) (api_Num_37.l1 (k + 1) y0 y1 y2 y3))
 | 0 => ⟨fun _ _ _ _ _ r h => by simp [api_Num_37.l0] at h, fun _ _ _ _ r h => by simp [api_Num_37.l1] at h⟩
 | k + 1 => by
  obtain ⟨ih0, ih1⟩ := api_Num_37.mono_l k
  refine ⟨?_, ?_⟩
  ·intro y0 y1 y2 y3 y4
   unfold api_Num_37.l0
   repeat' first
   | (with_reducible exact ih0 _ _ _ _ _)
   | (with_reducible exact ih1 _ _ _ _)
   | (with_reducible exact LeO.refl _)
   | (with_reducible exact LeO.none _)
   | (with_reducible refine LeO.ite ?_ ?_)
   | (with_reducible refine LeO.bind ?_ (fun _ => ?_))
   | exact ih0 _ _ _ _ _
   | exact ih1 _ _ _ _
   | exact LeO.none _
   | refine LeO.ite ?_ ?_
   | refine LeO.bind ?_ (fun _ => ?_)
  ·intro y0 y1 y2 y3
   unfold api_Num_37.l1
   repeat' first
   | (with_reducible exact ih0 _ _ _ _ _)
   | (with_reducible exact ih1 _ _ _ _)
   | (with_reducible exact LeO.refl _)
   | (with_reducible exact LeO.none _)
   | (with_reducible refine LeO.ite ?_ ?_)
   | (with_reducible refine LeO.bind ?_ (fun _ => ?_))
   | exact ih0 _ _ _ _ _
   | exact ih1 _ _ _ _
   | exact LeO.none _
   | refine LeO.ite ?_ ?_
   | refine LeO.bind ?_ (fun _ => ?_)
theorem api_Num_37.mono : ∀ a0 k, LeO (api_Num_37.f k a0) (api_Num_37.f (k + 1) a0) := by
 intro a0 k
 obtain ⟨ih0, ih1⟩ := api_Num_37.mono_l k
 unfold api_Num_37.f
 repeat' first
   | (with_reducible exact ih0 _ _ _ _ _)
   | (with_reducible exact ih1 _ _ _ _)
   | (with_reducible exact LeO.refl _)
   | (with_reducible exact LeO.none _)
   | (with_reducible refine LeO.ite ?_ ?_)
   | (with_reducible refine LeO.bind ?_ (fun _ => ?_))
   | exact ih0 _ _ _ _ _
   | exact ih1 _ _ _ _
   | exact LeO.none _
   | refine LeO.ite ?_ ?_
   | refine LeO.bind ?_ (fun _ => ?_)
set_option maxHeartbeats 8000000 in
set_option maxRecDepth 100000 in
theorem api_Num_37.calls (k : Nat) (A0 : Option Addr) (c0 : Nat) (l0 : List (List Int)) (r : List Int) (w : World) (hr0 : Kd.C (Kd.slice 72 (Kd.int .i32)) w A0 l0.length l0) (hc0 : l0.length ≤ c0) (h : api_Num_37.f k l0 = some r) :
  Calls Try.prog 37 #[.slice A0 l0.length c0] w fun e w' => ∃ v0_ : Value, e = .returned (v0_) ∧ Kd.R (Kd.int .i32) 72 w' w.heap.size (fun _ => True) v0_ r ∧ Below w.heap.size w w' := by
 have HR0 := Aside0.mk hr0
 have HC0 := Aside0.mk hc0
 clear hr0 hc0
 have HB := Aside0.mk (Below.refl w.heap.size w)
 have H : (api_Num_37.l0 k l0 0 l0 (l0.length : Int) 0) = some r := h
 clear h
 have H' := Aside0.mk H
 clear H
 go_enter Try.func37, Try.ntmps37
 go_wp2
 go_loopg [3, 11] k (fun kq v3 v11 w' => ∃ (x3_1 : Int) (x11_1 : Int), v3 = .int .i64 x3_1 ∧ v11 = .int .i64 x11_1 ∧ Aside0 (api_Num_37.l0 kq l0 x3_1 l0 (l0.length : Int) x11_1 = some r) ∧ Aside0 (kq ≤ k) ∧ Aside0 (Below w.heap.size w w'))
 case atStart => exact ⟨(0), (0), rs, rs, H', ⟨Nat.le_refl _⟩, ⟨by repeat (first | (with_reducible first | exact HB.out | apply below_alloc | apply pw_below_drewN | apply below_drew1) | exact HB.out)⟩⟩
 case round =>
  clear H'
  obtain ⟨x3_1, x11_1, rfl, rfl, HA, HK1, HB⟩ := hrel
  cases gk with
  | zero => exact absurd HA.out (by simp [api_Num_37.l0])
  | succ k1 =>
   have H := HA.out
   clear HA
   simp only [api_Num_37.l0] at H
   by_cases c2 : x11_1 < (l0.length : Int)
   ·rw [if_pos c2] at H
    have c2b0 : decide (x11_1 < (l0.length : Int)) = true := decide_eq_true c2
    clear c2
    by_cases c3 : 0 ≤ x11_1
    ·rw [if_pos c3] at H
     have c3b0 : decide (0 ≤ x11_1) = true := decide_eq_true c3
     clear c3
     by_cases c4 : x11_1 < (l0.length : Int)
     ·rw [if_pos c4] at H
      have c4b0 : decide (x11_1 < (l0.length : Int)) = true := decide_eq_true c4
      clear c4
      by_cases c5 : (wrap64 (x3_1 + ((rd_L2 l0 x11_1).length : Int))) < 0
      ·rw [if_pos c5] at H
       exact absurd H (by simp)
      ·rw [if_neg c5] at H
       have c5b0 : decide ((wrap64 (x3_1 + ((rd_L2 l0 x11_1).length : Int))) < 0) = false := decide_eq_false c5
       clear c5
       have H' := Aside0.mk H
       clear H
       have p167 : 0 ≤ (x11_1 : Int) := of_decide_eq_true asm
       have q167 : x11_1 < (l0.length : Int) := of_decide_eq_true asm
       obtain ⟨ad167, A167_0, c167_0, e167, hx167_0, hl167_0, hi167_0⟩ := at_L2 HR0.out x11_1 p167 q167
       cases e167
       (first | replace hx167_0 := (HB.out.cell (World.block_lt_of_cell? w _ hx167_0)).trans hx167_0 | skip)
       have HR167_0 := Aside0.mk hi167_0
       have HC167_0 := Aside0.mk hl167_0
       clear hi167_0 hl167_0
       replace p167 := eq_true p167
       replace q167 := eq_true q167
       go_wp2
       go_roundg k1
       case measure => have := HK1.out; omega
       case rel => exact ⟨(wrap64 (x3_1 + ((rd_L2 l0 x11_1).length : Int))), (wrap64 (x11_1 + 1)), rs, rs, H', ⟨by have := HK1.out; omega⟩, ⟨by repeat (first | (with_reducible first | exact HB.out | apply below_alloc | apply pw_below_drewN | apply below_drew1) | exact HB.out)⟩⟩
     ·rw [if_neg c4] at H
      exact absurd H (by simp)
    ·rw [if_neg c3] at H
     exact absurd H (by simp)
   ·rw [if_neg c2] at H
    have c2b0 : decide (x11_1 < (l0.length : Int)) = false := decide_eq_false c2
    clear c2
    replace H := Option.bind_eq_some_iff.mp H
    obtain ⟨t168, A60, H⟩ := H
    replace H : (api_Num_37.l1 k1 t168 l0 (l0.length : Int) 0) = some r := H
    have A6 := Aside0.mk A60
    clear A60
    have H' := Aside0.mk H
    clear H
    go_wp2_with (first | ((with_reducible refine gate_callee (f := 64) rfl ?_); refine goesL_ (some 24) rfl rfl Try.func64 (by kernel_rfl) rfl #[.slice none 0 0, .int .i64 x3_1] rfl ar ?_; (refine (api_Num_64.calls _ _ ([] : List Int) x3_1 t168 _ ?side1 ?side2 A6.out).mono ?_); (case side1 => exact Kd.C_nil _ _); (case side2 => exact Nat.le_refl _); rintro e w7 ⟨v169, rfl, ho0, hb⟩; refine ⟨_, rfl, ?_⟩; have n0_ := Aside0.mk (Kd.R_lower ho0 (below_size bel)); have n1_ := Aside0.mk (below_step bel hb); clear HB; have HO170 := n0_; have HB := n1_; clear n0_ n1_; (try clear hb); (try clear hb2); (try clear hk); (try clear hi); (try clear ho0)))
    go_loopg [6, 27] k1 (fun kq v6 v27 w' => ∃ (x6_2 : List Int) (x27_2 : Int), v27 = .int .i64 x27_2 ∧ Aside0 (api_Num_37.l1 kq x6_2 l0 (l0.length : Int) x27_2 = some r) ∧ Aside0 (kq ≤ k1) ∧ Aside0 (Kd.R (Kd.int .i32) 72 w' w.heap.size (fun _ => True) v6 x6_2) ∧ Aside0 (Below w.heap.size w w'))
    case atStart => exact ⟨(t168), (0), rs, H', ⟨Nat.le_refl _⟩, ⟨by (with_reducible repeat (first | apply Kd.R_alloc | apply Kd.R_drewN | apply Kd.R_drew)); exact HO170.out⟩, ⟨by repeat (first | (with_reducible first | exact HB.out | apply below_alloc | apply pw_below_drewN | apply below_drew1) | exact HB.out)⟩⟩
    case round =>
     clear H'
     try clear c1
     try clear p1
     try clear q1
     try clear hx1
     try clear c2
     try clear c2b0
     try clear p2
     try clear c3
     try clear c3b0
     try clear c4
     try clear c4b0
     try clear c5
     try clear c5b0
     try clear c6
     try clear p6
     try clear hx167_0
     try clear p167
     try clear q167
     obtain ⟨x6_2, x27_2, rfl, HA, HK2, HO_6, HB⟩ := hrel
     cases gk with
     | zero => exact absurd HA.out (by simp [api_Num_37.l1])
     | succ k2 =>
      have H := HA.out
      clear HA
      simp only [api_Num_37.l1] at H
      by_cases c8 : x27_2 < (l0.length : Int)
      ·rw [if_pos c8] at H
       have c8b0 : decide (x27_2 < (l0.length : Int)) = true := decide_eq_true c8
       clear c8
       by_cases c9 : 0 ≤ x27_2
       ·rw [if_pos c9] at H
        have c9b0 : decide (0 ≤ x27_2) = true := decide_eq_true c9
        clear c9
        by_cases c10 : x27_2 < (l0.length : Int)
        ·rw [if_pos c10] at H
         have c10b0 : decide (x27_2 < (l0.length : Int)) = true := decide_eq_true c10
         clear c10
         by_cases c11 : x6_2.length + (rd_L2 l0 x27_2).length < 35184372088832
         ·rw [if_pos c11] at H
          have LMc11 := Aside0.mk c11
          clear c11
          obtain ⟨y172, hy172⟩ : ∃ y_ : List Int, y_ = (x6_2 ++ (rd_L2 l0 x27_2)) := ⟨_, rfl⟩
          replace H : (api_Num_37.l1 k2 y172 l0 (l0.length : Int) (wrap64 (x27_2 + 1))) = some r := by first | (rw [hy172]; with_reducible exact H) | (have H2_ := (Option.bind_some _ _).symm.trans H; rw [hy172]; with_reducible exact H2_) | (have H2_ := (Option.bind_some _ _).symm.trans H; with_reducible exact H2_) | with_reducible exact H | (rw [hy172]; exact H) | exact H
          have Ny172 := Aside0.mk hy172
          clear hy172
          have H' := Aside0.mk H
          clear H
          have p171 : 0 ≤ (x27_2 : Int) := of_decide_eq_true asm
          have q171 : x27_2 < (l0.length : Int) := of_decide_eq_true asm
          obtain ⟨ad171, A171_0, c171_0, e171, hx171_0, hl171_0, hi171_0⟩ := at_L2 HR0.out x27_2 p171 q171
          cases e171
          (first | replace hx171_0 := (HB.out.cell (World.block_lt_of_cell? w _ hx171_0)).trans hx171_0 | skip)
          have HR171_0 := Aside0.mk hi171_0
          have HC171_0 := Aside0.mk hl171_0
          clear hi171_0 hl171_0
          replace p171 := eq_true p171
          replace q171 := eq_true q171
          go_wp2_with (first | ((with_reducible refine gate_builtin (b := .append) (xs := #[.tmp 31, .tmp 32]) rfl ?_); at_builtin; refine Kd.R_append_rows (Kd.int .i32) (w0 := w) w.heap.size rfl (.tmp 31) (.tmp 32) 61 72 (.int .i32 0) 4 rfl Try.underlying61 info72 rfl (by decide) (by omega) u6 x6_2 (rd_L2 l0 x27_2) _ _ _ (fun _ => True) (fun _ => False) rfl rfl ?aO ?aR (fun _ _ h => h) (fun _ h => h.elim) ?aF ?aB ?aS ?aL ?_; (case aR => repeat (first | exact (Kd.C_below HR171_0.out HB.out) | (with_reducible refine Kd.C_alloc ?_ _) | (with_reducible refine Kd.C_drewN ?_ _) | (with_reducible refine Kd.C_drew ?_))); (case aB => exact bel); (case aF => exact (fun _ _ => trivial)); (case aO => exact (rr HO_6.out)); (case aS => exact (below_size bel)); (case aL => have := LMc11.out; omega); intro v173 w12 ho hb hg hat; rw [← Ny172.out] at ho; have n0_ := Aside0.mk (hb); have n1_ := Aside0.mk (ho); clear HB; clear HO_6; have HB := n0_; have HO174 := n1_; clear n0_ n1_; clear ho hb hg hat))
          go_roundg k2
          case measure => have := HK1.out; have := HK2.out; omega
          case rel => exact ⟨(y172), (wrap64 (x27_2 + 1)), rs, H', ⟨by have := HK1.out; have := HK2.out; omega⟩, ⟨by (with_reducible repeat (first | apply Kd.R_alloc | apply Kd.R_drewN | apply Kd.R_drew)); exact HO174.out⟩, ⟨by repeat (first | (with_reducible first | exact HB.out | apply below_alloc | apply pw_below_drewN | apply below_drew1) | exact HB.out)⟩⟩
         ·rw [if_neg c11] at H
          exact absurd H (by simp)
        ·rw [if_neg c10] at H
         exact absurd H (by simp)
       ·rw [if_neg c9] at H
        exact absurd H (by simp)
      ·rw [if_neg c8] at H
       have c8b0 : decide (x27_2 < (l0.length : Int)) = false := decide_eq_false c8
       clear c8
       obtain rfl := Option.some.inj H
       go_wp2
       go_ret
       exact ⟨_, by first | rfl | (simp [errW_none, errW_some] <;> rfl) | (simp [*, errW_none, errW_some] <;> rfl), by (with_reducible repeat (first | apply Kd.R_alloc | apply Kd.R_drewN | apply Kd.R_drew)); exact HO_6.out, by repeat (first | (with_reducible first | exact HB.out | apply below_alloc | apply pw_below_drewN | apply below_drew1) | exact HB.out)⟩

/-! ### api_Num_65: function 65 -/
def api_Num_65.f (l0 : List (List Int)) (a1 : Int) : Option (List (List Int)) := if l0.length = 0 ∧ 0 ≤ a1 ∧ a1 < 5864062014805 then some [] else none
set_option maxHeartbeats 8000000 in
set_option maxRecDepth 100000 in
theorem api_Num_65.calls (A0 : Option Addr) (c0 : Nat) (l0 : List (List Int)) (a1 : Int) (r : List (List Int)) (w : World) (hr0 : Kd.C (Kd.slice 72 (Kd.int .i32)) w A0 l0.length l0) (hc0 : l0.length ≤ c0) (h : api_Num_65.f l0 a1 = some r) (hA : A0 = none := by rfl) (hz : c0 = 0 := by rfl) :
  Calls Try.prog 65 #[.slice A0 l0.length c0, .int .i64 a1] w fun e w' => ∃ v0_ : Value, e = .returned (v0_) ∧ Kd.S (Kd.slice 72 (Kd.int .i32)) 61 w' w.heap.size (fun _ => True) v0_ r ∧ Below w.heap.size w w' := by
 unfold api_Num_65.f at h
 subst hA
 subst hz
 by_cases c : l0.length = 0 ∧ 0 ≤ a1 ∧ a1 < 5864062014805
 ·rw [if_pos c] at h
  obtain rfl := Option.some.inj h
  obtain ⟨c1, c2, c3⟩ := c
  obtain rfl := List.length_eq_zero_iff.1 c1
  clear hr0 hc0 h c1
  have HB := Aside0.mk (Below.refl w.heap.size w)
  have hw : wrap64 a1 = a1 := by unfold wrap64; omega
  have d1 : decide (a1 < 0) = false := decide_eq_false (by omega)
  have LM : Aside0 (wrap64 a1 < 5864062014805) := Aside0.mk (by rw [hw]; exact c3)
  have C2 : Aside0 (0 ≤ wrap64 a1) := Aside0.mk (by rw [hw]; exact c2)
  obtain ⟨i0, hi0, _, _, _⟩ := info_parts info61
  by_cases c4 : 0 < a1
  ·have d2 : decide (0 < a1) = true := decide_eq_true c4
   clear c2 c3 c4
   go_enter Try.func65, Try.ntmps65
   go_wp2_with (first | (at_builtin; refine Kd.S_append_zeros (Kd.slice 72 (Kd.int .i32)) (w0 := w) w.heap.size rfl (.tmp 20) (.tmp 21) 62 3 61 (.slice none 0 0) 24 rfl Try.underlying62 Try.underlying3 info61 rfl (by decide) (by omega) (.slice none 0 0) [] [] (wrap64 a1 : Int) (fun _ => True) rfl rfl ⟨_, rfl, Kd.R_nil _ _ _ _ _⟩ (fun _ _ => trivial) (Kd.S_nil _ _ _ _ _) C2.out ?aB ?aS ?aL ?_; (case aB => exact bel); (case aS => exact (below_size bel)); (case aL => have := LM.out; simp only [List.length_nil]; omega); intro v1 w1 ho hb hg hat; obtain ⟨A1, cc1, rfl⟩ := Kd.S_slice ho; have HO := Aside0.mk ho; clear HB; have HB := Aside0.mk hb; have hcut := cut_to (P := Try.prog) 62 61 .i64 Try.underlying62 hi0 A1 (([] : List (List Int)) ++ List.replicate (wrap64 a1 : Int).toNat []).length cc1 0 (by omega) (by omega) (Kd.S_reads' HO.out).2.1; clear ho hb hg hat))
   go_ret
   have HT := Kd.S_take (m := 0) HO.out (Nat.zero_le _)
   exact ⟨_, by first | rfl | (simp; rfl) | (simp [*]; rfl), by (with_reducible repeat (first | apply Kd.S_alloc | apply Kd.S_drewN | apply Kd.S_drew)); exact HT, by repeat (first | (with_reducible first | exact HB.out | apply below_alloc | apply pw_below_drewN | apply below_drew1) | exact HB.out)⟩
  ·have d2 : decide (0 < a1) = false := decide_eq_false c4
   clear c2 c3 c4
   go_enter Try.func65, Try.ntmps65
   go_wp2
   go_ret
   exact ⟨_, rfl, Kd.S_nil _ _ _ _ _, HB.out⟩
 ·rw [if_neg c] at h
  cases h


/-! ### api_Num_38: function 38 -/
mutual
def api_Num_38.l0 : Nat → List (List (List Int)) → Int → List (List (List Int)) → Int → Int → Option ((List (List Int)))
 | 0, _, _, _, _, _ => none
 | k + 1, x0, x3, x9, x10, x11 => if x11 < x10 then (if 0 ≤ x11 then (if x11 < (x9.length : Int) then (if (wrap64 (x3 + ((rd_L3 x9 x11).length : Int))) < 0 then (none) else (api_Num_38.l0 k x0 (wrap64 (x3 + ((rd_L3 x9 x11).length : Int))) x9 x10 (wrap64 (x11 + 1)))) else (none)) else (none)) else ((api_Num_65.f ([] : List (List Int)) x3).bind fun t176 => (api_Num_38.l1 k t176 x0 (x0.length : Int) 0))
def api_Num_38.l1 : Nat → List (List Int) → List (List (List Int)) → Int → Int → Option ((List (List Int)))
 | 0, _, _, _, _ => none
 | k + 1, x6, x25, x26, x27 => if x27 < x26 then (if 0 ≤ x27 then (if x27 < (x25.length : Int) then (if x6.length + (rd_L3 x25 x27).length < 5864062014805 then (api_Num_38.l1 k (x6 ++ (rd_L3 x25 x27)) x25 x26 (wrap64 (x27 + 1))) else (none)) else (none)) else (none)) else (some x6)
end
def api_Num_38.f (k : Nat) (l0 : List (List (List Int))) : Option ((List (List Int))) := api_Num_38.l0 k l0 0 l0 (l0.length : Int) 0
theorem api_Num_38.mono_l : ∀ k, (∀ y0 y1 y2 y3 y4, LeO (api_Num_38.l0 k y0 y1 y2 y3 y4) (api_Num_38.l0 (k + 1) y0 y1 y2 y3 y4)) ∧ (∀ y0 y1 y2 y3, LeO (api_Num_38.l1 k y0 y1 y2 y3) (api_Num_38.l1 (k + 1) y0 y1 y2 y3))
 | 0 => ⟨fun _ _ _ _ _ r h => by simp [api_Num_38.l0] at h, fun _ _ _ _ r h => by simp [api_Num_38.l1] at h⟩
 | k + 1 => by
  obtain ⟨ih0, ih1⟩ := api_Num_38.mono_l k
  refine ⟨?_, ?_⟩
  ·intro y0 y1 y2 y3 y4
   unfold api_Num_38.l0
   repeat' first
   | (with_reducible exact ih0 _ _ _ _ _)
   | (with_reducible exact ih1 _ _ _ _)
   | (with_reducible exact LeO.refl _)
   | (with_reducible exact LeO.none _)
   | (with_reducible refine LeO.ite ?_ ?_)
   | (with_reducible refine LeO.bind ?_ (fun _ => ?_))
   | exact ih0 _ _ _ _ _
   | exact ih1 _ _ _ _
   | exact LeO.none _
   | refine LeO.ite ?_ ?_
   | refine LeO.bind ?_ (fun _ => ?_)
  ·intro y0 y1 y2 y3
   unfold api_Num_38.l1
   repeat' first
   | (with_reducible exact ih0 _ _ _ _ _)
   | (with_reducible exact ih1 _ _ _ _)
   | (with_reducible exact LeO.refl _)
   | (with_reducible exact LeO.none _)
   | (with_reducible refine LeO.ite ?_ ?_)
   | (with_reducible refine LeO.bind ?_ (fun _ => ?_))
   | exact ih0 _ _ _ _ _
   | exact ih1 _ _ _ _
   | exact LeO.none _
   | refine LeO.ite ?_ ?_
   | refine LeO.bind ?_ (fun _ => ?_)
theorem api_Num_38.mono : ∀ a0 k, LeO (api_Num_38.f k a0) (api_Num_38.f (k + 1) a0) := by
 intro a0 k
 obtain ⟨ih0, ih1⟩ := api_Num_38.mono_l k
 unfold api_Num_38.f
 repeat' first
   | (with_reducible exact ih0 _ _ _ _ _)
   | (with_reducible exact ih1 _ _ _ _)
   | (with_reducible exact LeO.refl _)
   | (with_reducible exact LeO.none _)
   | (with_reducible refine LeO.ite ?_ ?_)
   | (with_reducible refine LeO.bind ?_ (fun _ => ?_))
   | exact ih0 _ _ _ _ _
   | exact ih1 _ _ _ _
   | exact LeO.none _
   | refine LeO.ite ?_ ?_
   | refine LeO.bind ?_ (fun _ => ?_)
set_option maxHeartbeats 8000000 in
set_option maxRecDepth 100000 in
theorem api_Num_38.calls (k : Nat) (P0_ : Nat → Prop) (A0 : Option Addr) (c0 : Nat) (l0 : List (List (List Int))) (r : List (List Int)) (w : World) (hs0 : Kd.V (Kd.slice 61 (Kd.slice 72 (Kd.int .i32))) 62 w w.heap.size (fun k_ => P0_ k_) (.slice A0 l0.length c0) l0) (h : api_Num_38.f k l0 = some r) :
  Calls Try.prog 38 #[.slice A0 l0.length c0] w fun e w' => ∃ v0_ : Value, e = .returned (v0_) ∧ Kd.N (Kd.slice 72 (Kd.int .i32)) 61 w' w.heap.size (fun k_ => (P0_ k_ ∨ w.heap.size ≤ k_)) v0_ r ∧ Below w.heap.size w w' := by
 have HO0 := Aside0.mk (show Kd.V (Kd.slice 61 (Kd.slice 72 (Kd.int .i32))) 62 w w.heap.size (fun k_ => (P0_ k_ ∨ w.heap.size ≤ k_)) (.slice A0 l0.length c0) l0 from Kd.V_mono hs0 (fun k_ hk => .inl hk))
 have HB := Aside0.mk (Below.refl w.heap.size w)
 have H : (api_Num_38.l0 k l0 0 l0 (l0.length : Int) 0) = some r := h
 clear h
 have H' := Aside0.mk H
 clear H
 go_enter Try.func38, Try.ntmps38
 go_wp2
 go_loopg [3, 11] k (fun kq v3 v11 w' => ∃ (x3_1 : Int) (x11_1 : Int), v3 = .int .i64 x3_1 ∧ v11 = .int .i64 x11_1 ∧ Aside0 (api_Num_38.l0 kq l0 x3_1 l0 (l0.length : Int) x11_1 = some r) ∧ Aside0 (kq ≤ k) ∧ Aside0 (Kd.V (Kd.slice 61 (Kd.slice 72 (Kd.int .i32))) 62 w' w.heap.size (fun k_ => (P0_ k_ ∨ w.heap.size ≤ k_)) (.slice A0 l0.length c0) l0) ∧ Aside0 (Kd.V (Kd.slice 61 (Kd.slice 72 (Kd.int .i32))) 62 w' w.heap.size (fun k_ => (P0_ k_ ∨ w.heap.size ≤ k_)) (.slice A0 l0.length c0) l0) ∧ Aside0 (Below w.heap.size w w'))
 case atStart => exact ⟨(0), (0), rs, rs, H', ⟨Nat.le_refl _⟩, ⟨by (with_reducible repeat (first | apply Kd.V_alloc | apply Kd.V_drewN | apply Kd.V_drew)); exact HO0.out⟩, ⟨by (with_reducible repeat (first | apply Kd.V_alloc | apply Kd.V_drewN | apply Kd.V_drew)); exact HO0.out⟩, ⟨by repeat (first | (with_reducible first | exact HB.out | apply below_alloc | apply pw_below_drewN | apply below_drew1) | exact HB.out)⟩⟩
 case round =>
  clear H'
  obtain ⟨x3_1, x11_1, rfl, rfl, HA, HK1, HO_0, HO_9, HB⟩ := hrel
  cases gk with
  | zero => exact absurd HA.out (by simp [api_Num_38.l0])
  | succ k1 =>
   have H := HA.out
   clear HA
   simp only [api_Num_38.l0] at H
   by_cases c2 : x11_1 < (l0.length : Int)
   ·rw [if_pos c2] at H
    have c2b0 : decide (x11_1 < (l0.length : Int)) = true := decide_eq_true c2
    clear c2
    by_cases c3 : 0 ≤ x11_1
    ·rw [if_pos c3] at H
     have c3b0 : decide (0 ≤ x11_1) = true := decide_eq_true c3
     clear c3
     by_cases c4 : x11_1 < (l0.length : Int)
     ·rw [if_pos c4] at H
      have c4b0 : decide (x11_1 < (l0.length : Int)) = true := decide_eq_true c4
      clear c4
      by_cases c5 : (wrap64 (x3_1 + ((rd_L3 l0 x11_1).length : Int))) < 0
      ·rw [if_pos c5] at H
       exact absurd H (by simp)
      ·rw [if_neg c5] at H
       have c5b0 : decide ((wrap64 (x3_1 + ((rd_L3 l0 x11_1).length : Int))) < 0) = false := decide_eq_false c5
       clear c5
       have H' := Aside0.mk H
       clear H
       have p175 : 0 ≤ (x11_1 : Int) := of_decide_eq_true asm
       have q175 : x11_1 < (l0.length : Int) := of_decide_eq_true asm
       obtain ⟨ad175, A175_0, c175_0, e175, hx175_0, hl175_0, hi175_0⟩ := at_L3 (Kd.V_reads' HO_9.out).2.2 x11_1 p175 q175
       cases e175
       obtain ⟨ce175, hce175, hMe175, hcc175⟩ := Kd.V_get HO_9.out [] x11_1 p175 (by first | exact q175 | exact of_decide_eq_true asm | (have e_ := (Kd.V_reads' HO_9.out).1; omega))
       obtain ⟨ua175_0, uc175_0, rfl, ul175_0, ge175_0⟩ := Kd.FK_slice_open hMe175
       have hv175_0 := hcc175 0 _ rfl
       rw [Nat.add_zero, show ((Kd.slice 61 (Kd.slice 72 (Kd.int .i32)))).sz = 1 from rfl, Nat.mul_one] at hv175_0
       replace hv175_0 := Option.some.inj (hv175_0.symm.trans hx175_0)
       injection hv175_0 with hva_ hvn_ hvc_
       rw [hva_] at ge175_0
       rw [hvc_] at ul175_0
       have HL175_0 := Aside0.mk (show Kd.V (Kd.slice 72 (Kd.int .i32)) 61 _ w.heap.size _ _ (rd_L3 l0 x11_1) from Kd.V_mk ul175_0 ge175_0)
       clear hva_ hvn_ hvc_ ge175_0 ul175_0
       clear hcc175 hce175
       have HR175_0 := Aside0.mk hi175_0
       have HC175_0 := Aside0.mk hl175_0
       clear hi175_0 hl175_0
       replace p175 := eq_true p175
       replace q175 := eq_true q175
       go_wp2
       go_roundg k1
       case measure => have := HK1.out; omega
       case rel => exact ⟨(wrap64 (x3_1 + ((rd_L3 l0 x11_1).length : Int))), (wrap64 (x11_1 + 1)), rs, rs, H', ⟨by have := HK1.out; omega⟩, ⟨by (with_reducible repeat (first | apply Kd.V_alloc | apply Kd.V_drewN | apply Kd.V_drew)); exact HO_0.out⟩, ⟨by (with_reducible repeat (first | apply Kd.V_alloc | apply Kd.V_drewN | apply Kd.V_drew)); exact HO_9.out⟩, ⟨by repeat (first | (with_reducible first | exact HB.out | apply below_alloc | apply pw_below_drewN | apply below_drew1) | exact HB.out)⟩⟩
     ·rw [if_neg c4] at H
      exact absurd H (by simp)
    ·rw [if_neg c3] at H
     exact absurd H (by simp)
   ·rw [if_neg c2] at H
    have c2b0 : decide (x11_1 < (l0.length : Int)) = false := decide_eq_false c2
    clear c2
    replace H := Option.bind_eq_some_iff.mp H
    obtain ⟨t176, A60, H⟩ := H
    replace H : (api_Num_38.l1 k1 t176 l0 (l0.length : Int) 0) = some r := H
    have A6 := Aside0.mk A60
    clear A60
    have H' := Aside0.mk H
    clear H
    go_wp2_with (first | ((with_reducible refine gate_callee (f := 65) rfl ?_); refine goesL_ (some 24) rfl rfl Try.func65 (by kernel_rfl) rfl #[.slice none 0 0, .int .i64 x3_1] rfl ar ?_; (refine (api_Num_65.calls _ _ ([] : List (List Int)) x3_1 t176 _ ?side1 ?side2 A6.out).mono ?_); (case side1 => exact Kd.C_nil _ _); (case side2 => exact Nat.le_refl _); rintro e w7 ⟨v177, rfl, ho0, hb⟩; refine ⟨_, rfl, ?_⟩; have n0_ := Aside0.mk (Kd.V_elder' (by (with_reducible repeat (first | apply Kd.V_alloc | apply Kd.V_drewN | apply Kd.V_drew)); exact HO_0.out) (Kd.N_base (Kd.S_N ho0)) hb); have n1_ := Aside0.mk (Kd.V_elder' (by (with_reducible repeat (first | apply Kd.V_alloc | apply Kd.V_drewN | apply Kd.V_drew)); exact HO_9.out) (Kd.N_base (Kd.S_N ho0)) hb); have n2_ := Aside0.mk (Kd.N_lower (Kd.N_mono (ok' := fun k_ => (P0_ k_ ∨ w.heap.size ≤ k_)) (Kd.S_N (Kd.S_bound ho0)) (fun k_ hk_ => (.inr (Nat.le_trans (below_size bel) hk_.2.1)))) (below_size bel)); have n3_ := Aside0.mk (below_step bel hb); clear HO_0; clear HO_9; clear HB; have HO_0 := n0_; have HO_9 := n1_; have HO178 := n2_; have HB := n3_; clear n0_ n1_ n2_ n3_; (try clear hb); (try clear hb2); (try clear hk); (try clear hi); (try clear ho0)))
    go_loopg [6, 27] k1 (fun kq v6 v27 w' => ∃ (x6_2 : List (List Int)) (x27_2 : Int), v27 = .int .i64 x27_2 ∧ Aside0 (api_Num_38.l1 kq x6_2 l0 (l0.length : Int) x27_2 = some r) ∧ Aside0 (kq ≤ k1) ∧ Aside0 (Kd.N (Kd.slice 72 (Kd.int .i32)) 61 w' w.heap.size (fun k_ => (P0_ k_ ∨ w.heap.size ≤ k_)) v6 x6_2) ∧ Aside0 (Kd.V (Kd.slice 61 (Kd.slice 72 (Kd.int .i32))) 62 w' w.heap.size (fun k_ => (P0_ k_ ∨ w.heap.size ≤ k_) ∧ some k_ ≠ (v6 : Value).ownBlock) (.slice A0 l0.length c0) l0) ∧ Aside0 (Below w.heap.size w w'))
    case atStart => exact ⟨(t176), (0), rs, H', ⟨Nat.le_refl _⟩, ⟨by (with_reducible repeat (first | apply Kd.N_alloc | apply Kd.N_drewN | apply Kd.N_drew)); exact HO178.out⟩, ⟨by (with_reducible repeat (first | apply Kd.V_alloc | apply Kd.V_drewN | apply Kd.V_drew)); exact HO_0.out⟩, ⟨by repeat (first | (with_reducible first | exact HB.out | apply below_alloc | apply pw_below_drewN | apply below_drew1) | exact HB.out)⟩⟩
    case round =>
     clear H'
     try clear c1
     try clear p1
     try clear q1
     try clear hx1
     try clear c2
     try clear c2b0
     try clear p2
     try clear c3
     try clear c3b0
     try clear c4
     try clear c4b0
     try clear c5
     try clear c5b0
     try clear c6
     try clear p6
     try clear hx175_0
     try clear p175
     try clear q175
     obtain ⟨x6_2, x27_2, rfl, HA, HK2, HO_6, HO_25, HB⟩ := hrel
     cases gk with
     | zero => exact absurd HA.out (by simp [api_Num_38.l1])
     | succ k2 =>
      have H := HA.out
      clear HA
      simp only [api_Num_38.l1] at H
      by_cases c8 : x27_2 < (l0.length : Int)
      ·rw [if_pos c8] at H
       have c8b0 : decide (x27_2 < (l0.length : Int)) = true := decide_eq_true c8
       clear c8
       by_cases c9 : 0 ≤ x27_2
       ·rw [if_pos c9] at H
        have c9b0 : decide (0 ≤ x27_2) = true := decide_eq_true c9
        clear c9
        by_cases c10 : x27_2 < (l0.length : Int)
        ·rw [if_pos c10] at H
         have c10b0 : decide (x27_2 < (l0.length : Int)) = true := decide_eq_true c10
         clear c10
         by_cases c11 : x6_2.length + (rd_L3 l0 x27_2).length < 5864062014805
         ·rw [if_pos c11] at H
          have LMc11 := Aside0.mk c11
          clear c11
          obtain ⟨y180, hy180⟩ : ∃ y_ : List (List Int), y_ = (x6_2 ++ (rd_L3 l0 x27_2)) := ⟨_, rfl⟩
          replace H : (api_Num_38.l1 k2 y180 l0 (l0.length : Int) (wrap64 (x27_2 + 1))) = some r := by first | (rw [hy180]; with_reducible exact H) | (have H2_ := (Option.bind_some _ _).symm.trans H; rw [hy180]; with_reducible exact H2_) | (have H2_ := (Option.bind_some _ _).symm.trans H; with_reducible exact H2_) | with_reducible exact H | (rw [hy180]; exact H) | exact H
          have Ny180 := Aside0.mk hy180
          clear hy180
          have H' := Aside0.mk H
          clear H
          have p179 : 0 ≤ (x27_2 : Int) := of_decide_eq_true asm
          have q179 : x27_2 < (l0.length : Int) := of_decide_eq_true asm
          obtain ⟨ad179, A179_0, c179_0, e179, hx179_0, hl179_0, hi179_0⟩ := at_L3 (Kd.V_reads' HO_25.out).2.2 x27_2 p179 q179
          cases e179
          obtain ⟨ce179, hce179, hMe179, hcc179⟩ := Kd.V_get HO_25.out [] x27_2 p179 (by first | exact q179 | exact of_decide_eq_true asm | (have e_ := (Kd.V_reads' HO_25.out).1; omega))
          obtain ⟨ua179_0, uc179_0, rfl, ul179_0, ge179_0⟩ := Kd.FK_slice_open hMe179
          have hv179_0 := hcc179 0 _ rfl
          rw [Nat.add_zero, show ((Kd.slice 61 (Kd.slice 72 (Kd.int .i32)))).sz = 1 from rfl, Nat.mul_one] at hv179_0
          replace hv179_0 := Option.some.inj (hv179_0.symm.trans hx179_0)
          injection hv179_0 with hva_ hvn_ hvc_
          rw [hva_] at ge179_0
          rw [hvc_] at ul179_0
          have HL179_0 := Aside0.mk (show Kd.V (Kd.slice 72 (Kd.int .i32)) 61 _ w.heap.size _ _ (rd_L3 l0 x27_2) from Kd.V_mk ul179_0 ge179_0)
          clear hva_ hvn_ hvc_ ge179_0 ul179_0
          clear hcc179 hce179
          have HR179_0 := Aside0.mk hi179_0
          have HC179_0 := Aside0.mk hl179_0
          clear hi179_0 hl179_0
          replace p179 := eq_true p179
          replace q179 := eq_true q179
          go_wp2_with (first | ((with_reducible refine gate_builtin (b := .append) (xs := #[.tmp 31, .tmp 32]) rfl ?_); at_builtin; refine Kd.N_append_rows (Kd.slice 72 (Kd.int .i32)) (w0 := w) w.heap.size rfl (.tmp 31) (.tmp 32) 62 61 (.slice none 0 0) 24 rfl Try.underlying62 info61 rfl (by decide) (by omega) u6 x6_2 (rd_L3 l0 x27_2) _ _ _ (fun k_ => (P0_ k_ ∨ w.heap.size ≤ k_)) (fun k_ => ((fun k_ => (P0_ k_ ∨ w.heap.size ≤ k_))) k_ ∧ some k_ ≠ (u6 : Value).ownBlock) rfl rfl ?aO ?aR (fun _ hk => hk) ?aF ?aB ?aS ?aL ?_; (case aR => exact (by skip; exact Kd.V_F (Kd.V_mono (ok' := (fun k_ => ((fun k_ => (P0_ k_ ∨ w.heap.size ≤ k_))) k_ ∧ some k_ ≠ (u6 : Value).ownBlock)) (HL179_0.out) (fun k_ hk => ⟨hk.1, hk.2⟩)))); (case aB => exact bel); (case aF => exact (fun k_ hk => (.inr (Nat.le_trans (below_size bel) hk)))); (case aO => exact (by (with_reducible repeat (first | apply Kd.N_alloc | apply Kd.N_drewN | apply Kd.N_drew)); exact HO_6.out)); (case aS => exact (below_size bel)); (case aL => have := LMc11.out; omega); intro v181 w12 ho hb hg hat; rw [← Ny180.out] at ho; have n0_ := Aside0.mk (Kd.V_afterv (ok := (fun k_ => (P0_ k_ ∨ w.heap.size ≤ k_))) (by (with_reducible repeat (first | apply Kd.V_alloc | apply Kd.V_drewN | apply Kd.V_drew)); exact HO_25.out) hg hat); have n1_ := Aside0.mk (Kd.V_afterv (ok := (fun k_ => (P0_ k_ ∨ w.heap.size ≤ k_))) (by (with_reducible repeat (first | apply Kd.V_alloc | apply Kd.V_drewN | apply Kd.V_drew)); exact HL179_0.out) hg hat); have n2_ := Aside0.mk (hb); have n3_ := Aside0.mk (ho); clear HO_25; clear HL179_0; clear HB; clear HO_6; have HO_25 := n0_; have HL179_0 := n1_; have HB := n2_; have HO182 := n3_; clear n0_ n1_ n2_ n3_; clear ho hb hg hat))
          go_roundg k2
          case measure => have := HK1.out; have := HK2.out; omega
          case rel => exact ⟨(y180), (wrap64 (x27_2 + 1)), rs, H', ⟨by have := HK1.out; have := HK2.out; omega⟩, ⟨by (with_reducible repeat (first | apply Kd.N_alloc | apply Kd.N_drewN | apply Kd.N_drew)); exact HO182.out⟩, ⟨by (with_reducible repeat (first | apply Kd.V_alloc | apply Kd.V_drewN | apply Kd.V_drew)); exact HO_25.out⟩, ⟨by repeat (first | (with_reducible first | exact HB.out | apply below_alloc | apply pw_below_drewN | apply below_drew1) | exact HB.out)⟩⟩
         ·rw [if_neg c11] at H
          exact absurd H (by simp)
        ·rw [if_neg c10] at H
         exact absurd H (by simp)
       ·rw [if_neg c9] at H
        exact absurd H (by simp)
      ·rw [if_neg c8] at H
       have c8b0 : decide (x27_2 < (l0.length : Int)) = false := decide_eq_false c8
       clear c8
       obtain rfl := Option.some.inj H
       go_wp2
       go_ret
       exact ⟨_, by first | rfl | (simp [errW_none, errW_some] <;> rfl) | (simp [*, errW_none, errW_some] <;> rfl), by (with_reducible repeat (first | apply Kd.N_alloc | apply Kd.N_drewN | apply Kd.N_drew)); exact HO_6.out, by repeat (first | (with_reducible first | exact HB.out | apply below_alloc | apply pw_below_drewN | apply below_drew1) | exact HB.out)⟩

end Go.Proofs.Ytepbebelbcbciaa.Q
