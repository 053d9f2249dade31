/- Functions of the program as plain Lean functions, each with a proof that the program's call comes to what it says; and rows of statements over them. No condition but those that the theorems name. Written by a program of this session (myprint.py, over the kit's print with patches of its own). -/
import Derived.Test.YtepbebelbcbciaaQx0
import Derived.Test.YtepbebelbcbciaaQx6
namespace Go.Proofs.Ytepbebelbcbciaa.Q
open Go.RowKit Go.Proofs.YtepbebelbcbciaaW.PrintWords Go.Proofs.YtepbebelbcbciaaW.PrintLast Go.Proofs.YtepbebelbcbciaaW.PrintMore
attribute [local go_sem] max2_int min2_int max_two min_two max_three min_three max_four min_four   -- for this text's walks alone
set_option linter.unusedVariables false
set_option linter.unusedSimpArgs false

/-! ### block_window: function 48 -/
mutual
def block_window.l0 : Nat → Int → Int → List (List (List Int)) → List (List (List Int)) → Int → Int → Option ((List (List (List Int))))
 | 0, _, _, _, _, _, _ => none
 | k + 1, x1, x2, x7, x13, x14, x15 => if x15 < x14 then (if 0 ≤ x15 then (if x15 < (x13.length : Int) then (if 0 ≤ x1 then (if x1 ≤ x2 then (if x2 ≤ ((rd_L3 x13 x15).length : Int) then ((some (((rd_L3 x13 x15).take (x2 : Int).toNat).drop (x1 : Int).toNat : List (List Int))).bind fun y229 => (block_window.l1 k x1 x2 x7 ([] : List (List Int)) x13 x14 x15 y229 (y229.length : Int) 0)) else (none)) else (none)) else (none)) else (none)) else (none)) else (some x7)
def block_window.l1 : Nat → Int → Int → List (List (List Int)) → List (List Int) → List (List (List Int)) → Int → Int → List (List Int) → Int → Int → Option ((List (List (List Int))))
 | 0, _, _, _, _, _, _, _, _, _, _ => none
 | k + 1, x1, x2, x7, x10, x13, x14, x15, x22, x23, x24 => if x24 < x23 then (if 0 ≤ x24 then (if x24 < (x22.length : Int) then ((api_Num_67.f (rd_L2 x22 x24)).bind fun t234 => (if x10.length < 5864062014805 then (block_window.l1 k x1 x2 x7 (x10 ++ [t234]) x13 x14 x15 x22 x23 (wrap64 (x24 + 1))) else (none))) else (none)) else (none)) else (if x7.length < 5864062014805 then (block_window.l0 k x1 x2 (x7 ++ [x10]) x13 x14 (wrap64 (x15 + 1))) else (none))
end
def block_window.f (k : Nat) (l0 : List (List (List Int))) (a1 : Int) (a2 : Int) : Option ((List (List (List Int)))) := block_window.l0 k a1 a2 ([] : List (List (List Int))) l0 (l0.length : Int) 0
theorem block_window.mono_l : ∀ k, (∀ y0 y1 y2 y3 y4 y5, LeO (block_window.l0 k y0 y1 y2 y3 y4 y5) (block_window.l0 (k + 1) y0 y1 y2 y3 y4 y5)) ∧ (∀ y0 y1 y2 y3 y4 y5 y6 y7 y8 y9, LeO (block_window.l1 k y0 y1 y2 y3 y4 y5 y6 y7 y8 y9) (block_window.l1 (k + 1) y0 y1 y2 y3 y4 y5 y6 y7 y8 y9))
 | 0 => ⟨fun _ _ _ _ _ _ r h => by simp [block_window.l0] at h, fun _ _ _ _ _ _ _ _ _ _ r h => by simp [block_window.l1] at h⟩
 | k + 1 => by
  obtain ⟨ih0, ih1⟩ := block_window.mono_l k
  refine ⟨?_, ?_⟩
  ·intro y0 y1 y2 y3 y4 y5
   unfold block_window.l0
   repeat' first
   | (with_reducible exact ih0 _ _ _ _ _ _)
   | (with_reducible exact ih1 _ _ _ _ _ _ _ _ _ _)
   | (with_reducible exact LeO.refl _)
   | (with_reducible exact LeO.none _)
   | (with_reducible refine LeO.ite ?_ ?_)
   | (with_reducible refine LeO.bind ?_ (fun _ => ?_))
   | exact ih0 _ _ _ _ _ _
   | exact ih1 _ _ _ _ _ _ _ _ _ _
   | exact LeO.none _
   | refine LeO.ite ?_ ?_
   | refine LeO.bind ?_ (fun _ => ?_)
  ·intro y0 y1 y2 y3 y4 y5 y6 y7 y8 y9
   unfold block_window.l1
   repeat' first
   | (with_reducible exact ih0 _ _ _ _ _ _)
   | (with_reducible exact ih1 _ _ _ _ _ _ _ _ _ _)
   | (with_reducible exact LeO.refl _)
   | (with_reducible exact LeO.none _)
   | (with_reducible refine LeO.ite ?_ ?_)
   | (with_reducible refine LeO.bind ?_ (fun _ => ?_))
   | exact ih0 _ _ _ _ _ _
   | exact ih1 _ _ _ _ _ _ _ _ _ _
   | exact LeO.none _
   | refine LeO.ite ?_ ?_
   | refine LeO.bind ?_ (fun _ => ?_)
theorem block_window.mono : ∀ a0 a1 a2 k, LeO (block_window.f k a0 a1 a2) (block_window.f (k + 1) a0 a1 a2) := by
 intro a0 a1 a2 k
 obtain ⟨ih0, ih1⟩ := block_window.mono_l k
 unfold block_window.f
 repeat' first
   | (with_reducible exact ih0 _ _ _ _ _ _)
   | (with_reducible exact ih1 _ _ _ _ _ _ _ _ _ _)
   | (with_reducible exact LeO.refl _)
   | (with_reducible exact LeO.none _)
   | (with_reducible refine LeO.ite ?_ ?_)
   | (with_reducible refine LeO.bind ?_ (fun _ => ?_))
   | exact ih0 _ _ _ _ _ _
   | exact ih1 _ _ _ _ _ _ _ _ _ _
   | exact LeO.none _
   | refine LeO.ite ?_ ?_
   | refine LeO.bind ?_ (fun _ => ?_)
set_option maxHeartbeats 8000000 in
set_option maxRecDepth 100000 in
theorem block_window.calls (k : Nat) (A0 : Option Addr) (c0 : Nat) (l0 : List (List (List Int))) (a1 : Int) (a2 : Int) (r : List (List (List Int))) (w : World) (hr0 : Kd.C (Kd.slice 61 (Kd.slice 72 (Kd.int .i32))) w A0 l0.length l0) (hc0 : l0.length ≤ c0) (h : block_window.f k l0 a1 a2 = some r) :
  Calls Try.prog 48 #[.slice A0 l0.length c0, .int .i64 a1, .int .i64 a2] w fun e w' => ∃ v0_ : Value, e = .returned (v0_) ∧ Kd.R (Kd.slice 61 (Kd.slice 72 (Kd.int .i32))) 62 w' w.heap.size (fun _ => True) v0_ r ∧ Below w.heap.size w w' := by
 have HR0 := Aside0.mk hr0
 have HC0 := Aside0.mk hc0
 clear hr0 hc0
 have HB := Aside0.mk (Below.refl w.heap.size w)
 have H : (block_window.l0 k a1 a2 ([] : List (List (List Int))) l0 (l0.length : Int) 0) = some r := h
 clear h
 have H' := Aside0.mk H
 clear H
 go_enter Try.func48, Try.ntmps48
 go_wp2
 go_loopg [7, 15] k (fun kq v7 v15 w' => ∃ (x7_1 : List (List (List Int))) (x15_1 : Int), v15 = .int .i64 x15_1 ∧ Aside0 (block_window.l0 kq a1 a2 x7_1 l0 (l0.length : Int) x15_1 = some r) ∧ Aside0 (kq ≤ k) ∧ Aside0 (Kd.R (Kd.slice 61 (Kd.slice 72 (Kd.int .i32))) 62 w' w.heap.size (fun _ => True) v7 x7_1) ∧ Aside0 (Below w.heap.size w w'))
 case atStart => exact ⟨(([] : List (List (List Int)))), (0), rs, H', ⟨Nat.le_refl _⟩, ⟨by first | exact Kd.R_nil _ _ _ _ _ | exact Kd.N_nil _ _ _ _ _ | exact Kd.V_nil _ _ _ _ _ | exact Kd.Q_nil _ _ _ _ _ | exact Kd.S_nil _ _ _ _ _⟩, ⟨by repeat (first | (with_reducible first | exact HB.out | apply below_alloc | apply pw_below_drewN | apply below_drew1) | exact HB.out)⟩⟩
 case round =>
  clear H'
  try clear p2
  obtain ⟨x7_1, x15_1, rfl, HA, HK1, HO_7, HB⟩ := hrel
  cases gk with
  | zero => exact absurd HA.out (by simp [block_window.l0])
  | succ k1 =>
   have H := HA.out
   clear HA
   simp only [block_window.l0] at H
   by_cases c4 : x15_1 < (l0.length : Int)
   ·rw [if_pos c4] at H
    have c4b0 : decide (x15_1 < (l0.length : Int)) = true := decide_eq_true c4
    clear c4
    by_cases c5 : 0 ≤ x15_1
    ·rw [if_pos c5] at H
     have c5b0 : decide (0 ≤ x15_1) = true := decide_eq_true c5
     clear c5
     by_cases c6 : x15_1 < (l0.length : Int)
     ·rw [if_pos c6] at H
      have c6b0 : decide (x15_1 < (l0.length : Int)) = true := decide_eq_true c6
      clear c6
      by_cases c7 : 0 ≤ a1
      ·rw [if_pos c7] at H
       have c7b0 := eq_true c7
       have c7b1 : decide (0 ≤ a1) = true := decide_eq_true c7
       clear c7
       by_cases c8 : a1 ≤ a2
       ·rw [if_pos c8] at H
        have c8b0 := eq_true c8
        have c8b1 : decide (a1 ≤ a2) = true := decide_eq_true c8
        clear c8
        by_cases c9 : a2 ≤ ((rd_L3 l0 x15_1).length : Int)
        ·rw [if_pos c9] at H
         have c9b0 := eq_true c9
         have c9b1 : decide (a2 ≤ ((rd_L3 l0 x15_1).length : Int)) = true := decide_eq_true c9
         clear c9
         obtain ⟨y229, hy229⟩ : ∃ y_ : List (List Int), y_ = (((rd_L3 l0 x15_1).take (a2 : Int).toNat).drop (a1 : Int).toNat) := ⟨_, rfl⟩
         replace H : (block_window.l1 k1 a1 a2 x7_1 ([] : List (List Int)) l0 (l0.length : Int) x15_1 y229 (y229.length : Int) 0) = some r := by first | (rw [hy229]; with_reducible exact H) | (have H2_ := (Option.bind_some _ _).symm.trans H; rw [hy229]; with_reducible exact H2_) | (have H2_ := (Option.bind_some _ _).symm.trans H; with_reducible exact H2_) | with_reducible exact H | (rw [hy229]; exact H) | exact H
         have Ny229 := Aside0.mk hy229
         clear hy229
         have H' := Aside0.mk H
         clear H
         have p228 : 0 ≤ (x15_1 : Int) := of_decide_eq_true asm
         have q228 : x15_1 < (l0.length : Int) := of_decide_eq_true asm
         obtain ⟨ad228, A228_0, c228_0, e228, hx228_0, hl228_0, hi228_0⟩ := at_L3 HR0.out x15_1 p228 q228
         cases e228
         (first | replace hx228_0 := (HB.out.cell (World.block_lt_of_cell? w _ hx228_0)).trans hx228_0 | skip)
         have HR228_0 := Aside0.mk hi228_0
         have HC228_0 := Aside0.mk hl228_0
         clear hi228_0 hl228_0
         replace p228 := eq_true p228
         replace q228 := eq_true q228
         have q10 : (a2 : Int) ≤ (((rd_L3 l0 x15_1).length : Int) : Int) := of_decide_eq_true asm
         obtain ⟨i010, hi010, _, hsz10, _⟩ := info_parts info61
         have hroom10 : (rd_L3 l0 x15_1).length ≤ c228_0 := HC228_0.out
         have hC10 : Kd.C (Kd.slice 72 (Kd.int .i32)) _ A228_0 (rd_L3 l0 x15_1).length (rd_L3 l0 x15_1) := HR228_0.out
         have ql10 : (a1 : Int) ≤ (a2 : Int) := of_decide_eq_true asm
         have q010 : (0 : Int) ≤ (a1 : Int) := of_decide_eq_true asm
         have hcut10 := cut_mid (P := Try.prog) 62 61 .i64 .i64 Try.underlying62 hi010 1 hsz10 A228_0 (rd_L3 l0 x15_1).length c228_0 a1 a2 q010 ql10 q10 hroom10
         have hr10 := Kd.C_mid (lo := (a1 : Int).toNat) (hi := (a2 : Int).toNat) (c := c228_0) hC10 (by omega) (by omega) hroom10
         obtain ⟨A10, hA10⟩ : ∃ A1, A1 = (if c228_0 = (a1 : Int).toNat then A228_0 else (A228_0 : Option Addr).map (·.add ((a1 : Int).toNat * 1))) := ⟨_, rfl⟩
         obtain ⟨c10, hc10⟩ : ∃ c1, c1 = c228_0 - (a1 : Int).toNat := ⟨_, rfl⟩
         have hy10 : y229.length = (a2 : Int).toNat - (a1 : Int).toNat := (by rw [Ny229.out, List.length_drop, List.length_take] <;> omega)
         rw [show ((rd_L3 l0 x15_1).take (a2 : Int).toNat).drop (a1 : Int).toNat = y229 from Ny229.out.symm] at hr10
         replace hr10 : Kd.C (Kd.slice 72 (Kd.int .i32)) _ A10 y229.length y229 := (by rw [hA10]; exact hr10)
         rw [← hy10, ← hA10, ← hc10] at hcut10
         have HR232 := Aside0.mk hr10
         have HC232 := Aside0.mk (show y229.length ≤ c10 from by rw [hy10, hc10]; exact Nat.sub_le_sub_right (Nat.le_trans (by omega) hroom10) _)
         clear hr10 hC10 hroom10 hi010 hsz10 hc10
         have KY10 := Aside0.mk hy10
         have KA10 := Aside0.mk hA10
         clear hy10 hA10
         replace q10 := eq_true q10
         go_wp2
         go_loopg [10, 24] k1 (fun kq v10 v24 w' => ∃ (x10_2 : List (List Int)) (x24_2 : Int), v24 = .int .i64 x24_2 ∧ Aside0 (block_window.l1 kq a1 a2 x7_1 x10_2 l0 (l0.length : Int) x15_1 y229 (y229.length : Int) x24_2 = some r) ∧ Aside0 (kq ≤ k1) ∧ Aside0 (Kd.R (Kd.slice 61 (Kd.slice 72 (Kd.int .i32))) 62 w' w.heap.size (fun k_ => some k_ ≠ (v10 : Value).ownBlock) u7 x7_1) ∧ Aside0 (Kd.S (Kd.slice 72 (Kd.int .i32)) 61 w' w.heap.size (fun _ => True) v10 x10_2) ∧ Aside0 (Below w.heap.size w w'))
         case atStart => exact ⟨(([] : List (List Int))), (0), rs, H', ⟨Nat.le_refl _⟩, ⟨by (with_reducible repeat (first | apply Kd.R_alloc | apply Kd.R_drewN | apply Kd.R_drew)); exact Kd.R_mono HO_7.out (fun _ hk => (by simp [Value.ownBlock]))⟩, ⟨by first | exact Kd.S_nil _ _ _ _ _ | exact Kd.N_nil _ _ _ _ _ | exact Kd.V_nil _ _ _ _ _ | exact Kd.Q_nil _ _ _ _ _ | exact Kd.R_nil _ _ _ _ _⟩, ⟨by repeat (first | (with_reducible first | exact HB.out | apply below_alloc | apply pw_below_drewN | apply below_drew1) | exact HB.out)⟩⟩
         case round =>
          clear H'
          try clear c1
          try clear q1
          try clear c2
          try clear p2
          try clear q2
          try clear hx2
          try clear c4
          try clear c4b0
          try clear c5
          try clear c5b0
          try clear c6
          try clear c6b0
          try clear c7
          try clear c7b0
          try clear c7b1
          try clear c8
          try clear c8b0
          try clear c8b1
          try clear c9
          try clear c9b0
          try clear c9b1
          try clear c10
          try clear q10
          try clear hx228_0
          try clear p2
          try clear p228
          try clear q010
          try clear q10
          try clear q228
          obtain ⟨x10_2, x24_2, rfl, HA, HK2, HO_7, HO_10, HB⟩ := hrel
          cases gk with
          | zero => exact absurd HA.out (by simp [block_window.l1])
          | succ k2 =>
           have H := HA.out
           clear HA
           simp only [block_window.l1] at H
           by_cases c11 : x24_2 < (y229.length : Int)
           ·rw [if_pos c11] at H
            have c11b0 : decide (x24_2 < (y229.length : Int)) = true := decide_eq_true c11
            clear c11
            by_cases c12 : 0 ≤ x24_2
            ·rw [if_pos c12] at H
             have c12b0 : decide (0 ≤ x24_2) = true := decide_eq_true c12
             clear c12
             by_cases c13 : x24_2 < (y229.length : Int)
             ·rw [if_pos c13] at H
              have c13b0 : decide (x24_2 < (y229.length : Int)) = true := decide_eq_true c13
              clear c13
              replace H := Option.bind_eq_some_iff.mp H
              obtain ⟨t234, A140, H⟩ := H
              replace H : (if x10_2.length < 5864062014805 then (block_window.l1 k2 a1 a2 x7_1 (x10_2 ++ [t234]) l0 (l0.length : Int) x15_1 y229 (y229.length : Int) (wrap64 (x24_2 + 1))) else (none)) = some r := H
              have A14 := Aside0.mk A140
              clear A140
              by_cases c15 : x10_2.length < 5864062014805
              ·rw [if_pos c15] at H
               have LMc15 := Aside0.mk c15
               clear c15
               obtain ⟨y237, hy237⟩ : ∃ y_ : List (List Int), y_ = (x10_2 ++ [t234]) := ⟨_, rfl⟩
               replace H : (block_window.l1 k2 a1 a2 x7_1 y237 l0 (l0.length : Int) x15_1 y229 (y229.length : Int) (wrap64 (x24_2 + 1))) = some r := by first | (rw [hy237]; with_reducible exact H) | (have H2_ := (Option.bind_some _ _).symm.trans H; rw [hy237]; with_reducible exact H2_) | (have H2_ := (Option.bind_some _ _).symm.trans H; with_reducible exact H2_) | with_reducible exact H | (rw [hy237]; exact H) | exact H
               have Ny237 := Aside0.mk hy237
               clear hy237
               have H' := Aside0.mk H
               clear H
               have p233 : 0 ≤ (x24_2 : Int) := of_decide_eq_true asm
               have q233 : x24_2 < (y229.length : Int) := of_decide_eq_true asm
               obtain ⟨ad233, A233_0, c233_0, e233, hx233_0, hl233_0, hi233_0⟩ := at_L2 HR232.out x24_2 p233 q233
               cases e233
               (first | replace hx233_0 := (HB.out.cell (World.block_lt_of_cell? w _ hx233_0)).trans hx233_0 | skip)
               have HR233_0 := Aside0.mk hi233_0
               have HC233_0 := Aside0.mk hl233_0
               clear hi233_0 hl233_0
               replace p233 := eq_true p233
               replace q233 := eq_true q233
               go_wp2_with (first | ((with_reducible refine gate_callee (f := 67) rfl ?_); refine goesL_ (some 30) rfl rfl Try.func67 (by kernel_rfl) rfl #[.slice A233_0 (rd_L2 y229 x24_2).length c233_0] rfl ar ?_; (with_reducible refine (api_Num_67.calls _ _ (rd_L2 y229 x24_2) t234 _ ?side1 ?side2 A14.out).mono ?_); (case side1 => repeat (first | exact (Kd.C_below HR233_0.out HB.out) | (with_reducible refine Kd.C_alloc ?_ _) | (with_reducible refine Kd.C_drewN ?_ _) | (with_reducible refine Kd.C_drew ?_))); (case side2 => exact HC233_0.out); rintro e w16 ⟨v235, rfl, ho0, hb⟩; refine ⟨_, rfl, ?_⟩; have n0_ := Aside0.mk (Kd.R_elder' (rr HO_7.out) (Kd.R_base ho0) hb); have n1_ := Aside0.mk (Kd.S_elder' (by (with_reducible repeat (first | apply Kd.S_alloc | apply Kd.S_drewN | apply Kd.S_drew)); exact HO_10.out) (Kd.R_base ho0) hb); have n2_ := Aside0.mk (Kd.R_lower ho0 (below_size bel)); have n3_ := Aside0.mk (below_step bel hb); clear HO_7; clear HO_10; clear HB; have HO_7 := n0_; have HO_10 := n1_; have HO236 := n2_; have HB := n3_; clear n0_ n1_ n2_ n3_; (try clear hb); (try clear hb2); (try clear hk); (try clear hi); (try clear ho0); obtain ⟨Ao18, co18, eo18⟩ := Kd.R_slice HO236.out; subst eo18) | ((with_reducible refine gate_builtin (b := .append) (xs := #[.tmp 28, .tmp 31]) rfl ?_); at_builtin; refine Kd.S_append (Kd.slice 72 (Kd.int .i32)) (w0 := w) w.heap.size rfl (.tmp 28) (.tmp 31) 62 61 (.slice none 0 0) 24 rfl Try.underlying62 info61 rfl (by decide) (by omega) u10 x10_2 t234 [.slice Ao18 t234.length co18] (fun _ => True) (fun k_ => some k_ = (.slice Ao18 t234.length co18 : Value).ownBlock) rfl rfl ?aP (fun k_ hk_ => ((Kd.R_mono (ok' := fun k_ => ((fun _ => True)) k_ ∧ some k_ ≠ (u10 : Value).ownBlock) (Kd.R_apart' (HO236.out) (Kd.S_typed HO_10.out) (by decide)) (fun k_ hk => ⟨trivial, hk.2⟩))).1 k_ hk_.symm) ?aF ?aO ?aB ?aS ?aL ?_; (case aP => exact Kd.M_row (Kd.R_mono (Kd.R_tight rfl (Kd.R_mono (ok' := fun k_ => ((fun _ => True)) k_ ∧ some k_ ≠ (u10 : Value).ownBlock) (Kd.R_apart' (HO236.out) (Kd.S_typed HO_10.out) (by decide)) (fun k_ hk => ⟨trivial, hk.2⟩))) (fun _ h_ => h_))); (case aB => exact bel); (case aF => exact (fun _ _ => trivial)); (case aO => exact (by (with_reducible repeat (first | apply Kd.S_alloc | apply Kd.S_drewN | apply Kd.S_drew)); exact Kd.S_mono HO_10.out (fun k_ hk => ⟨trivial, fun e_ => hk.2 e_⟩))); (case aS => exact (below_size bel)); (case aL => have := LMc15.out; omega); intro v238 w17 ho hb hg hat; rw [← Ny237.out] at ho; have n0_ := Aside0.mk (Kd.R_after (ok := (fun k_ => some k_ ≠ (.slice Ao18 t234.length co18 : Value).ownBlock)) (by (with_reducible repeat (first | apply Kd.R_alloc | apply Kd.R_drewN | apply Kd.R_drew)); exact Kd.R_mono HO_7.out (fun _ hk => ⟨hk.2, hk.1⟩)) hg hat); have n1_ := Aside0.mk (hb); have n2_ := Aside0.mk (ho); clear HO_7; clear HB; clear HO_10; clear HO236; have HO_7 := n0_; have HB := n1_; have HO239 := n2_; clear n0_ n1_ n2_; clear ho hb hg hat))
               go_roundg k2
               case measure => have := HK1.out; have := HK2.out; omega
               case rel => exact ⟨(y237), (wrap64 (x24_2 + 1)), rs, H', ⟨by have := HK1.out; have := HK2.out; omega⟩, ⟨by (with_reducible repeat (first | apply Kd.R_alloc | apply Kd.R_drewN | apply Kd.R_drew)); exact Kd.R_mono HO_7.out (fun _ hk => hk.2)⟩, ⟨by (with_reducible repeat (first | apply Kd.S_alloc | apply Kd.S_drewN | apply Kd.S_drew)); exact HO239.out⟩, ⟨by repeat (first | (with_reducible first | exact HB.out | apply below_alloc | apply pw_below_drewN | apply below_drew1) | exact HB.out)⟩⟩
              ·rw [if_neg c15] at H
               exact absurd H (by simp)
             ·rw [if_neg c13] at H
              exact absurd H (by simp)
            ·rw [if_neg c12] at H
             exact absurd H (by simp)
           ·rw [if_neg c11] at H
            have c11b0 : decide (x24_2 < (y229.length : Int)) = false := decide_eq_false c11
            clear c11
            by_cases c19 : x7_1.length < 5864062014805
            ·rw [if_pos c19] at H
             have LMc19 := Aside0.mk c19
             clear c19
             obtain ⟨y240, hy240⟩ : ∃ y_ : List (List (List Int)), y_ = (x7_1 ++ [x10_2]) := ⟨_, rfl⟩
             replace H : (block_window.l0 k2 a1 a2 y240 l0 (l0.length : Int) (wrap64 (x15_1 + 1))) = some r := by first | (rw [hy240]; with_reducible exact H) | (have H2_ := (Option.bind_some _ _).symm.trans H; rw [hy240]; with_reducible exact H2_) | (have H2_ := (Option.bind_some _ _).symm.trans H; with_reducible exact H2_) | with_reducible exact H | (rw [hy240]; exact H) | exact H
             have Ny240 := Aside0.mk hy240
             clear hy240
             have H' := Aside0.mk H
             clear H
             obtain ⟨Ao21, co21, eo21⟩ := Kd.S_slice HO_10.out
             subst eo21
             go_wp2_with (first | ((with_reducible refine gate_builtin (b := .append) (xs := #[.tmp 34, .tmp 36]) rfl ?_); at_builtin; refine Kd.R_append (Kd.slice 61 (Kd.slice 72 (Kd.int .i32))) (w0 := w) w.heap.size rfl (.tmp 34) (.tmp 36) 25 62 (.slice none 0 0) 24 rfl Try.underlying25 info62 rfl (by decide) (by omega) u7 x7_1 x10_2 [.slice Ao21 x10_2.length co21] (fun _ => True) (fun k_ => ((fun _ => True)) k_ ∧ some k_ ≠ (u7 : Value).ownBlock) rfl rfl ?aP (fun _ hk => hk) ?aF ?aO ?aB ?aS ?aL ?_; (case aP => exact Kd.M_row (Kd.R_mono (Kd.R_apart' ((Kd.S_R HO_10.out)) (Kd.R_typed HO_7.out) (by decide)) (fun k_ hk => ⟨trivial, hk.2⟩))); (case aB => exact bel); (case aF => exact (fun _ _ => trivial)); (case aO => exact (by (with_reducible repeat (first | apply Kd.R_alloc | apply Kd.R_drewN | apply Kd.R_drew)); exact Kd.R_mono HO_7.out (fun _ hk => trivial))); (case aS => exact (below_size bel)); (case aL => have := LMc19.out; omega); intro v241 w20 ho hb hg hat; rw [← Ny240.out] at ho; have n0_ := Aside0.mk (hb); have n1_ := Aside0.mk (ho); clear HB; clear HO_7; clear HO_10; have HB := n0_; have HO242 := n1_; clear n0_ n1_; clear ho hb hg hat))
             go_roundg k2
             case measure => have := HK1.out; have := HK2.out; omega
             case rel => exact ⟨(y240), (wrap64 (x15_1 + 1)), rs, H', ⟨by have := HK1.out; have := HK2.out; omega⟩, ⟨by (with_reducible repeat (first | apply Kd.R_alloc | apply Kd.R_drewN | apply Kd.R_drew)); exact HO242.out⟩, ⟨by repeat (first | (with_reducible first | exact HB.out | apply below_alloc | apply pw_below_drewN | apply below_drew1) | exact HB.out)⟩⟩
            ·rw [if_neg c19] at H
             exact absurd H (by simp)
        ·rw [if_neg c9] at H
         exact absurd H (by simp)
       ·rw [if_neg c8] at H
        exact absurd H (by simp)
      ·rw [if_neg c7] at H
       exact absurd H (by simp)
     ·rw [if_neg c6] at H
      exact absurd H (by simp)
    ·rw [if_neg c5] at H
     exact absurd H (by simp)
   ·rw [if_neg c4] at H
    have c4b0 : decide (x15_1 < (l0.length : Int)) = false := decide_eq_false c4
    clear c4
    obtain rfl := Option.some.inj H
    go_wp2
    go_ret
    exact ⟨_, by first | rfl | (simp [errW_none, errW_some] <;> rfl) | (simp [*, errW_none, errW_some] <;> rfl), by (with_reducible repeat (first | apply Kd.R_alloc | apply Kd.R_drewN | apply Kd.R_drew)); exact HO_7.out, by repeat (first | (with_reducible first | exact HB.out | apply below_alloc | apply pw_below_drewN | apply below_drew1) | exact HB.out)⟩

/-! ### slices_Clone_int_int: function 49 -/
def slices_Clone_int_int.f (l0 : List Int) : Option (List Int) := if l0.length < 17592186044416 then some l0 else none
set_option maxHeartbeats 8000000 in
set_option maxRecDepth 100000 in
theorem slices_Clone_int_int.calls (A0 : Option Addr) (c0 : Nat) (l0 : List Int) (r : List Int) (w : World) (hr0 : Kd.C (Kd.int .i64) w A0 l0.length l0) (hc0 : l0.length ≤ c0) (h : slices_Clone_int_int.f l0 = some r) :
  Calls Try.prog 49 #[.slice A0 l0.length c0] w fun e w' => ∃ v0_ : Value, e = .returned (v0_) ∧ Kd.R (Kd.int .i64) 3 w' w.heap.size (fun _ => True) v0_ r ∧ Below w.heap.size w w' := by
 unfold slices_Clone_int_int.f at h
 have hu := Try.underlying24
 by_cases c11 : l0.length < 17592186044416
 ·rw [if_pos c11] at h
  obtain rfl := Option.some.inj h
  have HB := Aside0.mk (Below.refl w.heap.size w)
  have LMc11 := Aside0.mk c11
  clear c11 h
  rcases A0 with _ | A
  ·have hn : l0 = [] := by
    by_cases hp : 0 < l0.length
    ·obtain ⟨_, he, _⟩ := hr0.2.2 hp
     cases he
    ·exact List.length_eq_zero_iff.1 (by omega)
   subst hn
   have hrun := Go.Lib.run_eql_slice_nil (P := Try.prog) w 24 3 none 0 c0 0 0 hu
   clear hr0
   go_enter Try.func49, Try.ntmps49
   go_wp2
   go_ret
   exact ⟨_, rfl, Kd.R_nil _ _ _ _ _, HB.out⟩
  ·have hrun := Go.Lib.run_eql_slice_nil (P := Try.prog) w 24 3 (some A) l0.length c0 0 0 hu
   have HR0 := Aside0.mk hr0
   clear hr0
   obtain ⟨y108, hy108⟩ : ∃ y_ : List Int, y_ = (([] : List Int)) := ⟨_, rfl⟩
   have Ny108 := Aside0.mk hy108
   obtain ⟨y111, hy111⟩ : ∃ y_ : List Int, y_ = (y108 ++ l0) := ⟨_, rfl⟩
   have hyl : y111 = l0 := by rw [hy111, hy108, List.nil_append]
   have hlen : y108.length = 0 := by rw [hy108]; rfl
   have LMl := Aside0.mk hlen
   have Ny111 := Aside0.mk hy111
   clear hy111 hy108 hlen
   go_enter Try.func49, Try.ntmps49
   go_wp2_with (first | ((with_reducible refine gate_dst (N := 5) rfl ?_); refine Kd.R_lit (Kd.int .i64) _ 3 ?hg (N := 5) ?hd (xs := ([] : List Int)) (inner := []) (ok := fun _ => True) (okp := fun _ => True) ?hr ?hp (fun _ hk => hk) trivial (Below.refl _ _) (Nat.le_refl _) (by simp) ?_; (case hd => rfl); (case hg => rfl); (case hr => first | (go_simp; done) | (go_simp; rfl)); (case hp => exact (Reps.none _ _)); intro v109 w12 ho13 hb hg_ hnew_; clear hg_ hnew_; (first | rw [← Ny108.out] at ho13 | (simp only [Int.reduceToNat] at ho13; rw [← Ny108.out] at ho13)); have n0_ := Aside0.mk (Kd.R_lower ho13 (below_size bel)); have n1_ := Aside0.mk (below_step bel hb); clear HB; have HO110 := n0_; have HB := n1_; clear n0_ n1_; clear hb ho13) | ((with_reducible refine gate_builtin (b := .append) (xs := #[.tmp 5, .tmp 6]) rfl ?_); at_builtin; refine Kd.R_append_rows (Kd.int .i64) (w0 := w) w.heap.size rfl (.tmp 5) (.tmp 6) 24 3 (.int .i64 0) 8 rfl Try.underlying24 info3 rfl (by decide) (by omega) v109 y108 l0 _ _ _ (fun _ => True) (fun _ => False) rfl rfl ?aO ?aR (fun _ _ h => h) (fun _ h => h.elim) ?aF ?aB ?aS ?aL ?_; (case aR => repeat (first | exact (Kd.C_below HR0.out HB.out) | (with_reducible refine Kd.C_alloc ?_ _) | (with_reducible refine Kd.C_drewN ?_ _) | (with_reducible refine Kd.C_drew ?_))); (case aB => exact bel); (case aF => exact (fun _ _ => trivial)); (case aO => exact (rr HO110.out)); (case aS => exact (below_size bel)); (case aL => have := LMc11.out; have := LMl.out; omega); intro v112 w14 ho hb hg hat; rw [← Ny111.out] at ho; have n0_ := Aside0.mk (hb); have n1_ := Aside0.mk (ho); clear HB; clear HO110; have HB := n0_; have HO113 := n1_; clear n0_ n1_; clear ho hb hg hat))
   go_ret
   rw [hyl] at HO113
   exact ⟨_, by first | rfl | (simp; rfl) | (simp [*]; rfl), by (with_reducible repeat (first | apply Kd.R_alloc | apply Kd.R_drewN | apply Kd.R_drew)); exact HO113.out, by repeat (first | (with_reducible first | exact HB.out | apply below_alloc | apply pw_below_drewN | apply below_drew1) | exact HB.out)⟩
 ·rw [if_neg c11] at h
  cases h


/-! ### step_rows: function 81 -/
def step_rows.l0 : Nat → List (List Int) → Int → Int → List (List Int) → Int → Int → Option (Bool)
 | 0, _, _, _, _, _, _ => none
 | k + 1, x0, x1, x2, x9, x10, x11 => if x11 < x10 then (if 0 ≤ x11 then (if x11 < (x9.length : Int) then (if ((rd_L2 x9 x11).length : Int) = x2 then (step_rows.l0 k x0 x1 x2 x9 x10 (wrap64 (x11 + 1))) else (some false)) else (none)) else (none)) else (some ((x0.length : Int) == x1))
def step_rows.f (k : Nat) (l0 : List (List Int)) (a1 : Int) (a2 : Int) : Option (Bool) := step_rows.l0 k l0 a1 a2 l0 (l0.length : Int) 0
theorem step_rows.mono_l : ∀ k, (∀ y0 y1 y2 y3 y4 y5, LeO (step_rows.l0 k y0 y1 y2 y3 y4 y5) (step_rows.l0 (k + 1) y0 y1 y2 y3 y4 y5))
 | 0 => fun _ _ _ _ _ _ r h => by simp [step_rows.l0] at h
 | k + 1 => by
  have ih0 := step_rows.mono_l k
  ·intro y0 y1 y2 y3 y4 y5
   unfold step_rows.l0
   repeat' first
   | (with_reducible exact ih0 _ _ _ _ _ _)
   | (with_reducible exact LeO.refl _)
   | (with_reducible exact LeO.none _)
   | (with_reducible refine LeO.ite ?_ ?_)
   | (with_reducible refine LeO.bind ?_ (fun _ => ?_))
   | exact ih0 _ _ _ _ _ _
   | exact LeO.none _
   | refine LeO.ite ?_ ?_
   | refine LeO.bind ?_ (fun _ => ?_)
theorem step_rows.mono : ∀ a0 a1 a2 k, LeO (step_rows.f k a0 a1 a2) (step_rows.f (k + 1) a0 a1 a2) := by
 intro a0 a1 a2 k
 have ih0 := step_rows.mono_l k
 unfold step_rows.f
 repeat' first
   | (with_reducible exact ih0 _ _ _ _ _ _)
   | (with_reducible exact LeO.refl _)
   | (with_reducible exact LeO.none _)
   | (with_reducible refine LeO.ite ?_ ?_)
   | (with_reducible refine LeO.bind ?_ (fun _ => ?_))
   | exact ih0 _ _ _ _ _ _
   | exact LeO.none _
   | refine LeO.ite ?_ ?_
   | refine LeO.bind ?_ (fun _ => ?_)
set_option maxHeartbeats 8000000 in
set_option maxRecDepth 100000 in
theorem step_rows.calls (k : Nat) (A0 : Option Addr) (c0 : Nat) (l0 : List (List Int)) (a1 : Int) (a2 : Int) (r : Bool) (w : World) (hr0 : Kd.C (Kd.slice 72 (Kd.int .i32)) w A0 l0.length l0) (hc0 : l0.length ≤ c0) (h : step_rows.f k l0 a1 a2 = some r) :
  Calls Try.prog 81 #[.slice A0 l0.length c0, .int .i64 a1, .int .i64 a2] w fun e w' => e = .returned (.bool r) ∧ Drawn0 w w' := by
 have HR0 := Aside0.mk hr0
 have HC0 := Aside0.mk hc0
 clear hr0 hc0
 have H : (step_rows.l0 k l0 a1 a2 l0 (l0.length : Int) 0) = some r := h
 clear h
 have H' := Aside0.mk H
 clear H
 go_enter Try.func81, Try.ntmps81
 go_wp2
 go_loopg [11] k (fun kq v11 w' => ∃ (x11_1 : Int), v11 = .int .i64 x11_1 ∧ Aside0 (step_rows.l0 kq l0 a1 a2 l0 (l0.length : Int) x11_1 = some r) ∧ Aside0 (kq ≤ k) ∧ Drawn0 w w')
 case atStart => exact ⟨(0), rs, H', ⟨Nat.le_refl _⟩, by repeat (first | exact Drawn0.refl _ | apply Drawn0.step)⟩
 case round =>
  clear H'
  try clear p2
  obtain ⟨x11_1, rfl, HA, HK1, ⟨m1, rfl⟩⟩ := hrel
  cases gk with
  | zero => exact absurd HA.out (by simp [step_rows.l0])
  | succ k1 =>
   have H := HA.out
   clear HA
   simp only [step_rows.l0] at H
   by_cases c4 : x11_1 < (l0.length : Int)
   ·rw [if_pos c4] at H
    have c4b0 : decide (x11_1 < (l0.length : Int)) = true := decide_eq_true c4
    clear c4
    by_cases c5 : 0 ≤ x11_1
    ·rw [if_pos c5] at H
     have c5b0 : decide (0 ≤ x11_1) = true := decide_eq_true c5
     clear c5
     by_cases c6 : x11_1 < (l0.length : Int)
     ·rw [if_pos c6] at H
      have c6b0 : decide (x11_1 < (l0.length : Int)) = true := decide_eq_true c6
      clear c6
      by_cases c7 : ((rd_L2 l0 x11_1).length : Int) = a2
      ·rw [if_pos c7] at H
       have c7b0 : (((rd_L2 l0 x11_1).length : Int) == a2) = true := beq_iff_eq.mpr c7
       have c7b1 : (((rd_L2 l0 x11_1).length : Int) != a2) = false := bne_eq_false_iff_eq.mpr c7
       clear c7
       have H' := Aside0.mk H
       clear H
       have p243 : 0 ≤ (x11_1 : Int) := of_decide_eq_true asm
       have q243 : x11_1 < (l0.length : Int) := of_decide_eq_true asm
       obtain ⟨ad243, A243_0, c243_0, e243, hx243_0, hl243_0, hi243_0⟩ := at_L2 HR0.out x11_1 p243 q243
       cases e243
       have HR243_0 := Aside0.mk hi243_0
       have HC243_0 := Aside0.mk hl243_0
       clear hi243_0 hl243_0
       replace p243 := eq_true p243
       replace q243 := eq_true q243
       go_wp2
       go_roundg k1
       case measure => have := HK1.out; omega
       case rel => exact ⟨(wrap64 (x11_1 + 1)), rs, H', ⟨by have := HK1.out; omega⟩, by repeat (first | exact Drawn0.refl _ | apply Drawn0.step)⟩
      ·rw [if_neg c7] at H
       have c7b0 : (((rd_L2 l0 x11_1).length : Int) == a2) = false := beq_eq_false_iff_ne.mpr c7
       have c7b1 : (((rd_L2 l0 x11_1).length : Int) != a2) = true := bne_iff_ne.mpr c7
       obtain rfl := Option.some.inj H
       have p243 : 0 ≤ (x11_1 : Int) := of_decide_eq_true asm
       have q243 : x11_1 < (l0.length : Int) := of_decide_eq_true asm
       obtain ⟨ad243, A243_0, c243_0, e243, hx243_0, hl243_0, hi243_0⟩ := at_L2 HR0.out x11_1 p243 q243
       cases e243
       have HR243_0 := Aside0.mk hi243_0
       have HC243_0 := Aside0.mk hl243_0
       clear hi243_0 hl243_0
       replace p243 := eq_true p243
       replace q243 := eq_true q243
       go_wp2
       go_ret
       exact ⟨by first | rfl | (simp; done) | (simp [*]; done), by repeat (first | exact Drawn0.refl _ | apply Drawn0.step)⟩
     ·rw [if_neg c6] at H
      exact absurd H (by simp)
    ·rw [if_neg c5] at H
     exact absurd H (by simp)
   ·rw [if_neg c4] at H
    have c4b0 : decide (x11_1 < (l0.length : Int)) = false := decide_eq_false c4
    clear c4
    obtain rfl := Option.some.inj H
    go_wp2
    go_ret
    exact ⟨by first | rfl | (simp; done) | (simp [*]; done), by repeat (first | exact Drawn0.refl _ | apply Drawn0.step)⟩

end Go.Proofs.Ytepbebelbcbciaa.Q
