/- Functions of the program as plain Lean functions, each with a proof that the program's call comes to what it says; and rows of statements over them. No condition but those that the theorems name. Written by a program of this session (myprint.py, over the kit's print with patches of its own). -/
import Derived.Test.YtepbebelbcbciaaQx0
import Derived.Test.YtepbebelbcbciaaQx7
import Derived.Test.YtepbebelbcbciaaQx8
import Derived.Test.YtepbebelbcbciaaZWords
namespace Go.Proofs.Ytepbebelbcbciaa.Q
open Go.RowKit Go.Proofs.YtepbebelbcbciaaW.PrintWords Go.Proofs.YtepbebelbcbciaaW.PrintLast Go.Proofs.YtepbebelbcbciaaW.PrintMore
attribute [local go_sem] max2_int min2_int max_two min_two max_three min_three max_four min_four   -- for this text's walks alone
set_option linter.unusedVariables false
set_option linter.unusedSimpArgs false

/-! ### block_Split: function 40 -/
mutual
def block_Split.j0 : Nat → Int → Bool → Int → Int → Int → Int → Int → List Int → List (List (List Int)) → List (List (List Int)) → Option ((List (S29)) × Int)
 | 0, _, _, _, _, _, _, _, _, _, _ => none
 | k + 1, x2, x16, x252000, x252001, x252002, x252003, x252004, x253000, x253001, x253002 => if x16 = true then (some (([] : List (S29)), 1)) else ((step_Fits.f k x252000 x252001 x252002 x252003 x252004 x253000 x253001 x253002).bind fun t253 => (if t253 = true then (block_Split.l0 k x2 ([] : List (S29)) 0 x253000 x253001 x253002) else (some (([] : List (S29)), 4))))
def block_Split.l0 : Nat → Int → List (S29) → Int → List Int → List (List (List Int)) → List (List (List Int)) → Option ((List (S29)) × Int)
 | 0, _, _, _, _, _, _ => none
 | k + 1, x2, x8, x9, x253000, x253001, x253002 => if x9 < (x253000.length : Int) then (if 0 ≤ (mn (wrap64 (x9 + x2)) (x253000.length : Int)) then (if (mn (wrap64 (x9 + x2)) (x253000.length : Int)) ≤ (x253000.length : Int) then ((slices_Clone_int_int.f (x253000.take ((mn (wrap64 (x9 + x2)) (x253000.length : Int)) : Int).toNat)).bind fun t255 => ((block_window.f k x253001 x9 (mn (wrap64 (x9 + x2)) (x253000.length : Int))).bind fun t258 => ((block_window.f k x253002 x9 (mn (wrap64 (x9 + x2)) (x253000.length : Int))).bind fun t261 => (if x8.length < 1759218604441 then (block_Split.l0 k x2 (x8 ++ [(⟨t255, x9, (⟨t258, t261⟩ : S27)⟩ : S29)]) (wrap64 (x9 + x2)) x253000 x253001 x253002) else (none))))) else (none)) else (none)) else (some (x8, 0))
end
def block_Split.f (k : Nat) (a0_0 : Int) (a0_1 : Int) (a0_2 : Int) (a0_3 : Int) (a0_4 : Int) (l1_0 : List Int) (l1_1 : List (List (List Int))) (l1_2 : List (List (List Int))) (a2 : Int) : Option ((List (S29)) × Int) := if a2 < 1 then (block_Split.j0 k a2 true a0_0 a0_1 a0_2 a0_3 a0_4 l1_0 l1_1 l1_2) else (block_Split.j0 k a2 (decide (a2 > 16)) a0_0 a0_1 a0_2 a0_3 a0_4 l1_0 l1_1 l1_2)
theorem block_Split.mono_l : ∀ k, (∀ y0 y1 y2 y3 y4 y5 y6 y7 y8 y9, LeO (block_Split.j0 k y0 y1 y2 y3 y4 y5 y6 y7 y8 y9) (block_Split.j0 (k + 1) y0 y1 y2 y3 y4 y5 y6 y7 y8 y9)) ∧ (∀ y0 y1 y2 y3 y4 y5, LeO (block_Split.l0 k y0 y1 y2 y3 y4 y5) (block_Split.l0 (k + 1) y0 y1 y2 y3 y4 y5))
 | 0 => ⟨fun _ _ _ _ _ _ _ _ _ _ r h => by simp [block_Split.j0] at h, fun _ _ _ _ _ _ r h => by simp [block_Split.l0] at h⟩
 | k + 1 => by
  obtain ⟨ih0, ih1⟩ := block_Split.mono_l k
  refine ⟨?_, ?_⟩
  ·intro y0 y1 y2 y3 y4 y5 y6 y7 y8 y9
   unfold block_Split.j0
   repeat' first
   | (with_reducible exact ih0 _ _ _ _ _ _ _ _ _ _)
   | (with_reducible exact ih1 _ _ _ _ _ _)
   | (with_reducible exact block_window.mono _ _ _ _)
   | (with_reducible exact step_Fits.mono _ _ _ _ _ _ _ _ _)
   | (with_reducible exact LeO.refl _)
   | (with_reducible exact LeO.none _)
   | (with_reducible refine LeO.ite ?_ ?_)
   | (with_reducible refine LeO.bind ?_ (fun _ => ?_))
   | exact ih0 _ _ _ _ _ _ _ _ _ _
   | exact ih1 _ _ _ _ _ _
   | exact block_window.mono _ _ _ _
   | exact step_Fits.mono _ _ _ _ _ _ _ _ _
   | exact LeO.none _
   | refine LeO.ite ?_ ?_
   | refine LeO.bind ?_ (fun _ => ?_)
  ·intro y0 y1 y2 y3 y4 y5
   unfold block_Split.l0
   repeat' first
   | (with_reducible exact ih0 _ _ _ _ _ _ _ _ _ _)
   | (with_reducible exact ih1 _ _ _ _ _ _)
   | (with_reducible exact block_window.mono _ _ _ _)
   | (with_reducible exact step_Fits.mono _ _ _ _ _ _ _ _ _)
   | (with_reducible exact LeO.refl _)
   | (with_reducible exact LeO.none _)
   | (with_reducible refine LeO.ite ?_ ?_)
   | (with_reducible refine LeO.bind ?_ (fun _ => ?_))
   | exact ih0 _ _ _ _ _ _ _ _ _ _
   | exact ih1 _ _ _ _ _ _
   | exact block_window.mono _ _ _ _
   | exact step_Fits.mono _ _ _ _ _ _ _ _ _
   | exact LeO.none _
   | refine LeO.ite ?_ ?_
   | refine LeO.bind ?_ (fun _ => ?_)
theorem block_Split.mono : ∀ a0 a1 a2 a3 a4 a5 a6 a7 a8 k, LeO (block_Split.f k a0 a1 a2 a3 a4 a5 a6 a7 a8) (block_Split.f (k + 1) a0 a1 a2 a3 a4 a5 a6 a7 a8) := by
 intro a0 a1 a2 a3 a4 a5 a6 a7 a8 k
 obtain ⟨ih0, ih1⟩ := block_Split.mono_l k
 unfold block_Split.f
 repeat' first
   | (with_reducible exact ih0 _ _ _ _ _ _ _ _ _ _)
   | (with_reducible exact ih1 _ _ _ _ _ _)
   | (with_reducible exact block_window.mono _ _ _ _)
   | (with_reducible exact step_Fits.mono _ _ _ _ _ _ _ _ _)
   | (with_reducible exact LeO.refl _)
   | (with_reducible exact LeO.none _)
   | (with_reducible refine LeO.ite ?_ ?_)
   | (with_reducible refine LeO.bind ?_ (fun _ => ?_))
   | exact ih0 _ _ _ _ _ _ _ _ _ _
   | exact ih1 _ _ _ _ _ _
   | exact block_window.mono _ _ _ _
   | exact step_Fits.mono _ _ _ _ _ _ _ _ _
   | exact LeO.none _
   | refine LeO.ite ?_ ?_
   | refine LeO.bind ?_ (fun _ => ?_)
def block_Split.T10 : Bool × List (List Nat × List Nat) := (true, [([], []), ([], []), ([1], [1]), ([], []), ([2, 3], [2, 3]), ([4], [4]), ([], []), ([], []), ([7], [7]), ([8], [8]), ([], []), ([], []), ([9, 10, 11, 5], [9, 10, 11]), ([], []), ([13], [13]), ([14], [14]), ([], []), ([], []), ([15, 16, 17, 12], [15, 16, 17]), ([12, 18], [12, 18]), ([5, 6, 19], [5, 6, 19]), ([20], [20]), ([0, 21, 18], [0, 21]), ([22, 22, 0, 1, 2, 3, 4, 5, 6, 7, 8, 9, 10, 11, 12, 13, 14, 15, 16, 17, 18, 19, 20, 21, 22], [0, 22])])
def block_Split.B10 : List Nat := [0, 0, 2, 0, 14, 30, 0, 0, 128, 384, 0, 0, 4030, 0, 8192, 24576, 0, 0, 262078, 524222, 1048574, 2097150, 4194303, 8388607]
theorem block_Split.tab10 : rtab .any (opsOf Try.f40 10) = block_Split.T10 := by kernel_rfl
theorem block_Split.bits10 : waitsOk block_Split.T10.2 block_Split.B10 = true := by kernel_rfl
set_option maxHeartbeats 8000000 in
set_option maxRecDepth 100000 in
theorem block_Split.calls (k : Nat) (a0_0 : Int) (a0_1 : Int) (a0_2 : Int) (a0_3 : Int) (a0_4 : Int) (A1_0 : Option Addr) (c1_0 : Nat) (l1_0 : List Int) (A1_1 : Option Addr) (c1_1 : Nat) (l1_1 : List (List (List Int))) (A1_2 : Option Addr) (c1_2 : Nat) (l1_2 : List (List (List Int))) (a2 : Int) (r1 : List (S29)) (r2 : Int) (w : World) (hr1_0 : Kd.C (Kd.int .i64) w A1_0 l1_0.length l1_0) (hc1_0 : l1_0.length ≤ c1_0) (hr1_1 : Kd.C (Kd.slice 61 (Kd.slice 72 (Kd.int .i32))) w A1_1 l1_1.length l1_1) (hc1_1 : l1_1.length ≤ c1_1) (hr1_2 : Kd.C (Kd.slice 61 (Kd.slice 72 (Kd.int .i32))) w A1_2 l1_2.length l1_2) (hc1_2 : l1_2.length ≤ c1_2) (h : block_Split.f k a0_0 a0_1 a0_2 a0_3 a0_4 l1_0 l1_1 l1_2 a2 = some (r1, r2)) :
  Calls Try.prog 40 #[.agg #[.int .i64 a0_0, .int .i64 a0_1, .int .i64 a0_2, .int .i64 a0_3, .int .i64 a0_4], .agg #[.slice A1_0 l1_0.length c1_0, .slice A1_1 l1_1.length c1_1, .slice A1_2 l1_2.length c1_2], .int .i64 a2] w fun e w' => ∃ v0_ : Value, e = .returned (.tuple #[v0_, .int .i64 r2]) ∧ Kd.R k29 29 w' w.heap.size (fun _ => True) v0_ r1 ∧ Below w.heap.size w w' := by
 have hu23 := Try.underlying23
 have hu51 := Try.underlying51
 have hu27 := Try.underlying27
 have hu29 := Try.underlying29
 have HR1_0 := Aside0.mk hr1_0
 have HC1_0 := Aside0.mk hc1_0
 clear hr1_0 hc1_0
 have HR1_1 := Aside0.mk hr1_1
 have HC1_1 := Aside0.mk hc1_1
 clear hr1_1 hc1_1
 have HR1_2 := Aside0.mk hr1_2
 have HC1_2 := Aside0.mk hc1_2
 clear hr1_2 hc1_2
 have HB := Aside0.mk (Below.refl w.heap.size w)
 have H : (if a2 < 1 then (block_Split.j0 k a2 true a0_0 a0_1 a0_2 a0_3 a0_4 l1_0 l1_1 l1_2) else (block_Split.j0 k a2 (decide (a2 > 16)) a0_0 a0_1 a0_2 a0_3 a0_4 l1_0 l1_1 l1_2)) = some (r1, r2) := h
 clear h
 have HC4 := Aside0.mk H
 clear H
 go_enter Try.func40, Try.ntmps40
 go_upto_region 1 with (first | ((with_reducible refine gate_dst (N := 3) rfl ?_); refine bxe (N := 3) (cs := #[.int .i64 a0_0, .int .i64 a0_1, .int .i64 a0_2, .int .i64 a0_3, .int .i64 a0_4]) (t := 23) ?_; intro gb251 hg w5 hbox hb; have n0_ := Aside0.mk (below_step bel hb); have n1_ := Aside0.mk (hbox); have n2_ := Aside0.mk ((bsz hg : w.heap.size ≤ gb251)); have n3_ := Aside0.mk ((bsz hg : w.heap.size ≤ gb251)); clear HB; have HB := n0_; have BK251 := n1_; have GW251 := n2_; have GE251 := n3_; clear n0_ n1_ n2_ n3_; clear hb hbox hg) | ((with_reducible refine gate_dst (N := 4) rfl ?_); refine bxe (N := 4) (cs := #[.slice A1_0 l1_0.length c1_0, .slice A1_1 l1_1.length c1_1, .slice A1_2 l1_2.length c1_2]) (t := 51) ?_; intro gb252 hg w6 hbox hb; have n0_ := Aside0.mk (bkb BK251.out hb); have n1_ := Aside0.mk (below_step bel hb); have n2_ := Aside0.mk (hbox); have n3_ := Aside0.mk ((bsz hg : w.heap.size ≤ gb252)); have n4_ := Aside0.mk ((bsz hg : w.heap.size ≤ gb252)); have n5_ := Aside0.mk ((nel BK251.out hg : gb251 ≠ gb252)); have n6_ := Aside0.mk ((neg_ BK251.out hg : gb252 ≠ gb251)); clear BK251; clear HB; have BK251 := n0_; have HB := n1_; have BK252 := n2_; have GW252 := n3_; have GE252 := n4_; have NB251_252 := n5_; have NB252_251 := n6_; clear n0_ n1_ n2_ n3_ n4_ n5_ n6_; clear hb hbox hg))
 (try simp only [Act.put, List.setIfInBounds_toArray, List.set_cons_zero, List.set_cons_succ])
 go_cut [16] (fun v16 wc => ∃ (kq : Nat) (x16_3 : Bool), v16 = .bool x16_3 ∧ Aside0 (block_Split.j0 kq a2 x16_3 a0_0 a0_1 a0_2 a0_3 a0_4 l1_0 l1_1 l1_2 = some (r1, r2)) ∧ Aside0 (kq ≤ k) ∧ Aside0 (wc.heap[gb251]? = some (.cells #[.int .i64 a0_0, .int .i64 a0_1, .int .i64 a0_2, .int .i64 a0_3, .int .i64 a0_4] 23 (0, 0))) ∧ Aside0 (wc.heap[gb252]? = some (.cells #[(.slice A1_0 l1_0.length c1_0), (.slice A1_1 l1_1.length c1_1), (.slice A1_2 l1_2.length c1_2)] 51 (0, 0))) ∧ Aside0 (Below w.heap.size w wc))
 case first =>
  have H := HC4.out
  clear HC4
  by_cases c7 : a2 < 1
  ·rw [if_pos c7] at H
   have c7b0 : decide (a2 < 1) = true := decide_eq_true c7
   clear c7
   (first | rw [c7b0] | (simp only [i64_w, i32_w]; rw [c7b0]) | skip)
   have H' := Aside0.mk H
   clear H
   go_wp2
   go_meet
   case rel => exact ⟨_, (true), rs, H', ⟨by first | omega | exact Nat.le_refl _⟩, ⟨by (with_reducible repeat (first | refine blk_drewN ?_ _ | refine blk_drew ?_ | refine blk_alloc ?_ _)); exact BK251.out⟩, ⟨by (with_reducible repeat (first | refine blk_drewN ?_ _ | refine blk_drew ?_ | refine blk_alloc ?_ _)); exact BK252.out⟩, ⟨by repeat (first | (with_reducible first | exact HB.out | apply below_alloc | apply pw_below_drewN | apply below_drew1 | refine below_set ?_ GE251.out | refine below_set ?_ GE252.out) | exact HB.out)⟩⟩
  ·rw [if_neg c7] at H
   have c7b0 : decide (a2 < 1) = false := decide_eq_false c7
   clear c7
   (first | rw [c7b0] | (simp only [i64_w, i32_w]; rw [c7b0]) | skip)
   have H' := Aside0.mk H
   clear H
   go_wp2
   go_meet
   case rel => exact ⟨_, (decide (a2 > 16)), rs, H', ⟨by first | omega | exact Nat.le_refl _⟩, ⟨by (with_reducible repeat (first | refine blk_drewN ?_ _ | refine blk_drew ?_ | refine blk_alloc ?_ _)); exact BK251.out⟩, ⟨by (with_reducible repeat (first | refine blk_drewN ?_ _ | refine blk_drew ?_ | refine blk_alloc ?_ _)); exact BK252.out⟩, ⟨by repeat (first | (with_reducible first | exact HB.out | apply below_alloc | apply pw_below_drewN | apply below_drew1 | refine below_set ?_ GE251.out | refine below_set ?_ GE252.out) | exact HB.out)⟩⟩
 case rest =>
  clear HC4
  try clear c1
  try clear p2
  try clear c4
  try clear c7
  try clear c7b0
  obtain ⟨kq, x16_3, rfl, HA, HJ3, BK251, BK252, HB⟩ := hcut
  cases kq with
  | zero => exact absurd HA.out (by simp [block_Split.j0])
  | succ kj3 =>
   have H := HA.out
   clear HA
   simp only [block_Split.j0] at H
   by_cases c8 : x16_3 = true
   ·subst c8
    have H1 : (some (([] : List (S29)), 1)) = some (r1, r2) := by rw [if_pos rfl] at H; exact H
    clear H
    have H := H1
    clear H1
    simp only [Option.some.injEq, Prod.mk.injEq] at H
    obtain ⟨rfl, rfl⟩ := H
    go_wp2
    go_ret2
    exact ⟨_, by first | rfl | (simp [errW_none, errW_some] <;> rfl) | (simp [*, errW_none, errW_some] <;> rfl), by first | exact Kd.R_nil _ _ _ _ _ | exact Kd.N_nil _ _ _ _ _ | exact Kd.V_nil _ _ _ _ _ | exact Kd.Q_nil _ _ _ _ _ | exact Kd.S_nil _ _ _ _ _, by repeat (first | (with_reducible first | exact HB.out | apply below_alloc | apply pw_below_drewN | apply below_drew1 | refine below_set ?_ GE251.out | refine below_set ?_ GE252.out) | exact HB.out)⟩
   ·replace c8 := Bool.eq_false_iff.mpr c8
    subst c8
    have H1 : ((step_Fits.f kj3 a0_0 a0_1 a0_2 a0_3 a0_4 l1_0 l1_1 l1_2).bind fun t253 => (if t253 = true then (block_Split.l0 kj3 a2 ([] : List (S29)) 0 l1_0 l1_1 l1_2) else (some (([] : List (S29)), 4)))) = some (r1, r2) := by rw [if_neg (show ¬ (false = true) by decide)] at H; exact H
    clear H
    have H := H1
    clear H1
    replace H := Option.bind_eq_some_iff.mp H
    obtain ⟨t253, A90, H⟩ := H
    replace H : (if t253 = true then (block_Split.l0 kj3 a2 ([] : List (S29)) 0 l1_0 l1_1 l1_2) else (some (([] : List (S29)), 4))) = some (r1, r2) := H
    have A9 := Aside0.mk A90
    clear A90
    by_cases c10 : t253 = true
    ·subst c10
     have H1 : (block_Split.l0 kj3 a2 ([] : List (S29)) 0 l1_0 l1_1 l1_2) = some (r1, r2) := by rw [if_pos rfl] at H; exact H
     clear H
     have H := H1
     clear H1
     have H' := Aside0.mk H
     clear H
     have hnb11 := NB251_252.out
     have hnc11 := NB252_251.out
     obtain ⟨hcz12_0, hcz12_1, hcz12_2, hcz12_3, hcz12_4, hfz12_0, hfz12_1, hfz12_2, hfz12_3, hfz12_4⟩ := cq5 BK251.out
     obtain ⟨hcz13_0, hcz13_1, hcz13_2, hfz13_0, hfz13_1, hfz13_2⟩ := cq3 BK252.out
     go_wp2_with (first | ((with_reducible refine gate_callee (f := 66) rfl ?_); refine goesL_ (some 19) rfl rfl Try.func66 (by kernel_rfl) rfl #[.agg #[.int .i64 a0_0, .int .i64 a0_1, .int .i64 a0_2, .int .i64 a0_3, .int .i64 a0_4], .agg #[.slice A1_0 l1_0.length c1_0, .slice A1_1 l1_1.length c1_1, .slice A1_2 l1_2.length c1_2]] rfl ar ?_; (with_reducible refine (step_Fits.calls kj3 a0_0 a0_1 a0_2 a0_3 a0_4 _ _ l1_0 _ _ l1_1 _ _ l1_2 true _ ?side1 ?side2 ?side3 ?side4 ?side5 ?side6 A9.out).mono ?_); (case side1 => repeat (first | exact (Kd.C_below HR1_0.out HB.out) | (with_reducible refine Kd.C_alloc ?_ _) | (with_reducible refine Kd.C_drewN ?_ _) | (with_reducible refine Kd.C_drew ?_))); (case side2 => exact HC1_0.out); (case side3 => repeat (first | exact (Kd.C_below HR1_1.out HB.out) | (with_reducible refine Kd.C_alloc ?_ _) | (with_reducible refine Kd.C_drewN ?_ _) | (with_reducible refine Kd.C_drew ?_))); (case side4 => exact HC1_1.out); (case side5 => repeat (first | exact (Kd.C_below HR1_2.out HB.out) | (with_reducible refine Kd.C_alloc ?_ _) | (with_reducible refine Kd.C_drewN ?_ _) | (with_reducible refine Kd.C_drew ?_))); (case side6 => exact HC1_2.out); rintro e w14 ⟨rfl, hb⟩; refine ⟨_, rfl, ?_⟩; have n0_ := Aside0.mk (bkb BK251.out hb); have n1_ := Aside0.mk (bkb BK252.out hb); have n2_ := Aside0.mk (below_step bel hb); clear BK251; clear BK252; clear HB; have BK251 := n0_; have BK252 := n1_; have HB := n2_; clear n0_ n1_ n2_; (try clear hb); (try clear hb2); (try clear hk); (try clear hi)))
     go_loopg [8, 9] kj3 (fun kq v8 v9 w' => ∃ (x8_2 : List (S29)) (x9_2 : Int), v9 = .int .i64 x9_2 ∧ Aside0 (block_Split.l0 kq a2 x8_2 x9_2 l1_0 l1_1 l1_2 = some (r1, r2)) ∧ Aside0 (kq ≤ kj3) ∧ Aside0 (Kd.R k29 29 w' w.heap.size (fun _ => True) v8 x8_2) ∧ Aside0 (w'.heap[gb251]? = some (.cells #[.int .i64 a0_0, .int .i64 a0_1, .int .i64 a0_2, .int .i64 a0_3, .int .i64 a0_4] 23 (0, 0))) ∧ Aside0 (w'.heap[gb252]? = some (.cells #[(.slice A1_0 l1_0.length c1_0), (.slice A1_1 l1_1.length c1_1), (.slice A1_2 l1_2.length c1_2)] 51 (0, 0))) ∧ Aside0 (Below w.heap.size w w'))
     case atStart => exact ⟨(([] : List (S29))), (0), rs, H', ⟨Nat.le_refl _⟩, ⟨by first | exact Kd.R_nil _ _ _ _ _ | exact Kd.N_nil _ _ _ _ _ | exact Kd.V_nil _ _ _ _ _ | exact Kd.Q_nil _ _ _ _ _ | exact Kd.S_nil _ _ _ _ _⟩, ⟨by (with_reducible repeat (first | refine blk_drewN ?_ _ | refine blk_drew ?_ | refine blk_alloc ?_ _)); exact BK251.out⟩, ⟨by (with_reducible repeat (first | refine blk_drewN ?_ _ | refine blk_drew ?_ | refine blk_alloc ?_ _)); exact BK252.out⟩, ⟨by repeat (first | (with_reducible first | exact HB.out | apply below_alloc | apply pw_below_drewN | apply below_drew1 | refine below_set ?_ GE251.out | refine below_set ?_ GE252.out) | exact HB.out)⟩⟩
     case round =>
      clear H'
      try clear c1
      try clear p2
      try clear c4
      try clear c6
      try clear c7
      try clear c7b0
      try clear c8
      try clear c10
      try clear c11
      try clear hcz12_0
      try clear hcz12_1
      try clear hcz12_2
      try clear hcz12_3
      try clear hcz12_4
      try clear hcz13_0
      try clear hcz13_1
      try clear hcz13_2
      try clear hfz12_0
      try clear hfz12_1
      try clear hfz12_2
      try clear hfz12_3
      try clear hfz12_4
      try clear hfz13_0
      try clear hfz13_1
      try clear hfz13_2
      try clear p2
      obtain ⟨x8_2, x9_2, rfl, HA, HK2, HO_8, BK251, BK252, HB⟩ := hrel
      cases gk with
      | zero => exact absurd HA.out (by simp [block_Split.l0])
      | succ k2 =>
       have H := HA.out
       clear HA
       simp only [block_Split.l0] at H
       by_cases c15 : x9_2 < (l1_0.length : Int)
       ·rw [if_pos c15] at H
        have c15b0 : decide (x9_2 < (l1_0.length : Int)) = true := decide_eq_true c15
        clear c15
        obtain ⟨ji16, hji16⟩ : ∃ j_ : Int, (mn (wrap64 (x9_2 + a2)) (l1_0.length : Int)) = j_ := ⟨_, rfl⟩
        replace H : (if 0 ≤ (ji16) then (if (ji16) ≤ (l1_0.length : Int) then ((slices_Clone_int_int.f (l1_0.take ((ji16) : Int).toNat)).bind fun t255 => ((block_window.f k2 l1_1 x9_2 (ji16)).bind fun t258 => ((block_window.f k2 l1_2 x9_2 (ji16)).bind fun t261 => (if x8_2.length < 1759218604441 then (block_Split.l0 k2 a2 (x8_2 ++ [(⟨t255, x9_2, (⟨t258, t261⟩ : S27)⟩ : S29)]) (wrap64 (x9_2 + a2)) l1_0 l1_1 l1_2) else (none))))) else (none)) else (none)) = some (r1, r2) := by first | (rw [hji16] at H; exact H) | (simp only [hji16] at H ⊢; exact H)
        have hji16_ : (if (l1_0.length : Int) < (wrap64 (x9_2 + a2)) then (l1_0.length : Int) else (wrap64 (x9_2 + a2))) = ji16 := hji16
        by_cases c17 : 0 ≤ (ji16)
        ·rw [if_pos c17] at H
         have c17b0 := eq_true c17
         have c17b1 : decide (0 ≤ (ji16)) = true := decide_eq_true c17
         clear c17
         by_cases c18 : (ji16) ≤ (l1_0.length : Int)
         ·rw [if_pos c18] at H
          have c18b0 := eq_true c18
          have c18b1 : decide ((ji16) ≤ (l1_0.length : Int)) = true := decide_eq_true c18
          clear c18
          replace H := Option.bind_eq_some_iff.mp H
          obtain ⟨t255, A190, H⟩ := H
          replace H : ((block_window.f k2 l1_1 x9_2 (ji16)).bind fun t258 => ((block_window.f k2 l1_2 x9_2 (ji16)).bind fun t261 => (if x8_2.length < 1759218604441 then (block_Split.l0 k2 a2 (x8_2 ++ [(⟨t255, x9_2, (⟨t258, t261⟩ : S27)⟩ : S29)]) (wrap64 (x9_2 + a2)) l1_0 l1_1 l1_2) else (none)))) = some (r1, r2) := H
          have A19 := Aside0.mk A190
          clear A190
          replace H := Option.bind_eq_some_iff.mp H
          obtain ⟨t258, A200, H⟩ := H
          replace H : ((block_window.f k2 l1_2 x9_2 (ji16)).bind fun t261 => (if x8_2.length < 1759218604441 then (block_Split.l0 k2 a2 (x8_2 ++ [(⟨t255, x9_2, (⟨t258, t261⟩ : S27)⟩ : S29)]) (wrap64 (x9_2 + a2)) l1_0 l1_1 l1_2) else (none))) = some (r1, r2) := H
          have A20 := Aside0.mk A200
          clear A200
          replace H := Option.bind_eq_some_iff.mp H
          obtain ⟨t261, A210, H⟩ := H
          replace H : (if x8_2.length < 1759218604441 then (block_Split.l0 k2 a2 (x8_2 ++ [(⟨t255, x9_2, (⟨t258, t261⟩ : S27)⟩ : S29)]) (wrap64 (x9_2 + a2)) l1_0 l1_1 l1_2) else (none)) = some (r1, r2) := H
          have A21 := Aside0.mk A210
          clear A210
          by_cases c22 : x8_2.length < 1759218604441
          ·rw [if_pos c22] at H
           have LMc22 := Aside0.mk c22
           clear c22
           obtain ⟨y264, hy264⟩ : ∃ y_ : List (S29), y_ = (x8_2 ++ [(⟨t255, x9_2, (⟨t258, t261⟩ : S27)⟩ : S29)]) := ⟨_, rfl⟩
           replace H : (block_Split.l0 k2 a2 y264 (wrap64 (x9_2 + a2)) l1_0 l1_1 l1_2) = some (r1, r2) := by first | (rw [hy264]; with_reducible exact H) | (have H2_ := (Option.bind_some _ _).symm.trans H; rw [hy264]; with_reducible exact H2_) | (have H2_ := (Option.bind_some _ _).symm.trans H; with_reducible exact H2_) | with_reducible exact H | (rw [hy264]; exact H) | exact H
           have Ny264 := Aside0.mk hy264
           clear hy264
           have H' := Aside0.mk H
           clear H
           have hnb23 := NB252_251.out
           have hnc23 := NB251_252.out
           obtain ⟨hcz24_0, hcz24_1, hcz24_2, hfz24_0, hfz24_1, hfz24_2⟩ := cq3 BK252.out
           try go_wp2
           have n0_ := Aside0.mk (Kd.R_drew HO_8.out)
           have n1_ := Aside0.mk (blk_drew BK251.out)
           have n2_ := Aside0.mk (blk_drew BK252.out)
           have n3_ := Aside0.mk (below_drew1 HB.out)
           clear HO_8
           clear BK251
           clear BK252
           clear HB
           have HO_8 := n0_
           have BK251 := n1_
           have BK252 := n2_
           have HB := n3_
           clear n0_ n1_ n2_ n3_
           obtain ⟨i026, hi026, _, hsz26, _⟩ := info_parts info3
           obtain ⟨hcut26, hA26, hC26⟩ := print_take_of (P := Try.prog) (Value.int .i64) 0 24 3 .i64 Try.underlying24 hi026 hsz26 A1_0 c1_0 l1_0 (ji16) (of_decide_eq_true asm) (of_decide_eq_true asm) HC1_0.out
           have HR254 := Aside0.mk (Kd.C_of_reads (h1 := fun _ => rfl) (hA26 _ (Kd.reads_of_C HR1_0.out)))
           have HC254 := Aside0.mk hC26
           clear hA26 hC26 hi026 hsz26
           refine start_ (n := 24) (S := fun w' => w'.cell? ⟨gb252, 0, none⟩ = some (.slice A1_0 l1_0.length c1_0) ∧ w'.cell? ⟨gb252, 1, none⟩ = some (.slice A1_1 l1_1.length c1_1) ∧ w'.cell? ⟨gb252, 2, none⟩ = some (.slice A1_2 l1_2.length c1_2)) (ds := []) #[false, false, false, false, false, false, false, false, false, false, false, false, false, false, false, false, false, false, false, false, false, false, false, false] (by kernel_rfl) rfl rfl ⟨(blk_cell BK252.out 0).trans rfl, (blk_cell BK252.out 1).trans rfl, (blk_cell BK252.out 2).trans rfl⟩ (fun hHeld => ?_); refine with_tabW block_Split.tab10 block_Split.bits10 (fun HT_ HW_ => ?_)
           generalize wr.drew = w25 at HO_8 BK251 BK252 HB HR254 hHeld ⊢
           refine pure_ (i := 0) (N := some 36) (v := ?_) (a' := ?_) #[true, false, false, false, false, false, false, false, false, false, false, false, false, false, false, false, false, false, false, false, false, false, false, false] rfl rfl (any_of HT_.out (by kernel_rfl)) (fun _ _ _ h => h) (Or.inl ⟨by rfl, ?_⟩) ?_ ?_
           rotate_left
           ·intro w'
            go_simp
            with_reducible rfl
           rotate_left
           ·simp only [Act.put, List.setIfInBounds_toArray, List.set_cons_zero, List.set_cons_succ, i64_w, i32_w]
            rfl
           refine pure_ (i := 1) (N := some 37) (v := ?_) (a' := ?_) #[true, true, false, false, false, false, false, false, false, false, false, false, false, false, false, false, false, false, false, false, false, false, false, false] rfl rfl (any_of HT_.out (by kernel_rfl)) (fun _ _ _ h => h) (Or.inl ⟨by rfl, ?_⟩) ?_ ?_
           rotate_left
           ·intro w'
            go_simp
            with_reducible rfl
           rotate_left
           ·simp only [Act.put, List.setIfInBounds_toArray, List.set_cons_zero, List.set_cons_succ, i64_w, i32_w]
            rfl
           refine pure_ (i := 3) (N := some 39) (v := ?_) (a' := ?_) #[true, true, false, true, false, false, false, false, false, false, false, false, false, false, false, false, false, false, false, false, false, false, false, false] rfl rfl (any_of HT_.out (by kernel_rfl)) (fun _ _ _ h => h) (Or.inl ⟨by rfl, ?_⟩) ?_ ?_
           rotate_left
           ·intro w'
            go_simp
            with_reducible rfl
           rotate_left
           ·simp only [Act.put, List.setIfInBounds_toArray, List.set_cons_zero, List.set_cons_succ, i64_w, i32_w]
            rfl
           refine pure_ (i := 6) (N := some 42) (v := ?_) (a' := ?_) #[true, true, false, true, false, false, true, false, false, false, false, false, false, false, false, false, false, false, false, false, false, false, false, false] rfl rfl (any_of HT_.out (by kernel_rfl)) (fun _ _ _ h => h) (Or.inl ⟨by rfl, ?_⟩) ?_ ?_
           rotate_left
           ·intro w'
            go_simp
            with_reducible rfl
           rotate_left
           ·simp only [Act.put, List.setIfInBounds_toArray, List.set_cons_zero, List.set_cons_succ, i64_w, i32_w]
            rfl
           refine pure_ (i := 7) (N := some 43) (v := ?_) (a' := ?_) #[true, true, false, true, false, false, true, true, false, false, false, false, false, false, false, false, false, false, false, false, false, false, false, false] rfl rfl (any_of HT_.out (by kernel_rfl)) (fun _ _ _ h => h) (Or.inl ⟨by rfl, ?_⟩) ?_ ?_
           rotate_left
           ·intro w'
            go_simp
            with_reducible rfl
           rotate_left
           ·simp only [Act.put, List.setIfInBounds_toArray, List.set_cons_zero, List.set_cons_succ, i64_w, i32_w]
            rfl
           refine pure_ (i := 8) (N := some 44) (v := ?_) (a' := ?_) #[true, true, false, true, false, false, true, true, true, false, false, false, false, false, false, false, false, false, false, false, false, false, false, false] rfl rfl (any_of HT_.out (by kernel_rfl)) (fun _ _ _ h => h) (Or.inl ⟨by rfl, ?_⟩) ?_ ?_
           rotate_left
           ·intro w'
            go_simp
            with_reducible rfl
           rotate_left
           ·simp only [Act.put, List.setIfInBounds_toArray, List.set_cons_zero, List.set_cons_succ, i64_w, i32_w]
            rfl
           refine pure_ (i := 10) (N := some 46) (v := ?_) (a' := ?_) #[true, true, false, true, false, false, true, true, true, false, true, false, false, false, false, false, false, false, false, false, false, false, false, false] rfl rfl (any_of HT_.out (by kernel_rfl)) (fun _ _ _ h => h) (Or.inl ⟨by rfl, ?_⟩) ?_ ?_
           rotate_left
           ·intro w'
            go_simp
            with_reducible rfl
           rotate_left
           ·simp only [Act.put, List.setIfInBounds_toArray, List.set_cons_zero, List.set_cons_succ, i64_w, i32_w]
            rfl
           refine pure_ (i := 11) (N := some 47) (v := ?_) (a' := ?_) #[true, true, false, true, false, false, true, true, true, false, true, true, false, false, false, false, false, false, false, false, false, false, false, false] rfl rfl (any_of HT_.out (by kernel_rfl)) (fun _ _ _ h => h) (Or.inl ⟨by rfl, ?_⟩) ?_ ?_
           rotate_left
           ·intro w'
            go_simp
            with_reducible rfl
           rotate_left
           ·simp only [Act.put, List.setIfInBounds_toArray, List.set_cons_zero, List.set_cons_succ, i64_w, i32_w]
            rfl
           refine pure_ (i := 13) (N := some 49) (v := ?_) (a' := ?_) #[true, true, false, true, false, false, true, true, true, false, true, true, false, true, false, false, false, false, false, false, false, false, false, false] rfl rfl (any_of HT_.out (by kernel_rfl)) (fun _ _ _ h => h) (Or.inl ⟨by rfl, ?_⟩) ?_ ?_
           rotate_left
           ·intro w'
            go_simp
            with_reducible rfl
           rotate_left
           ·simp only [Act.put, List.setIfInBounds_toArray, List.set_cons_zero, List.set_cons_succ, i64_w, i32_w]
            rfl
           refine pure_ (i := 14) (N := some 50) (v := ?_) (a' := ?_) #[true, true, false, true, false, false, true, true, true, false, true, true, false, true, true, false, false, false, false, false, false, false, false, false] rfl rfl (any_of HT_.out (by kernel_rfl)) (fun _ _ _ h => h) (Or.inl ⟨by rfl, ?_⟩) ?_ ?_
           rotate_left
           ·intro w'
            go_simp
            with_reducible rfl
           rotate_left
           ·simp only [Act.put, List.setIfInBounds_toArray, List.set_cons_zero, List.set_cons_succ, i64_w, i32_w]
            rfl
           refine pure_ (i := 16) (N := some 52) (v := ?_) (a' := ?_) #[true, true, false, true, false, false, true, true, true, false, true, true, false, true, true, false, true, false, false, false, false, false, false, false] rfl rfl (any_of HT_.out (by kernel_rfl)) (fun _ _ _ h => h) (Or.inl ⟨by rfl, ?_⟩) ?_ ?_
           rotate_left
           ·intro w'
            go_simp
            with_reducible rfl
           rotate_left
           ·simp only [Act.put, List.setIfInBounds_toArray, List.set_cons_zero, List.set_cons_succ, i64_w, i32_w]
            rfl
           refine pure_ (i := 17) (N := some 53) (v := ?_) (a' := ?_) #[true, true, false, true, false, false, true, true, true, false, true, true, false, true, true, false, true, true, false, false, false, false, false, false] rfl rfl (any_of HT_.out (by kernel_rfl)) (fun _ _ _ h => h) (Or.inl ⟨by rfl, ?_⟩) ?_ ?_
           rotate_left
           ·intro w'
            go_simp
            with_reducible rfl
           rotate_left
           ·simp only [Act.put, List.setIfInBounds_toArray, List.set_cons_zero, List.set_cons_succ, i64_w, i32_w]
            rfl
           refine take_ (i := 2) (N := some 38) (v := ?_) (a' := ?_) #[true, true, true, true, false, false, true, true, true, false, true, true, false, true, true, false, true, true, false, false, false, false, false, false] rfl rfl (take_ofW HT_.out HW_.out (by kernel_rfl)) (fun _ _ _ h => h) (Or.inl ⟨by rfl, ?_⟩) hHeld ?_ ?_
           rotate_left
           ·rintro w' ⟨s0, s1, s2⟩
            go_simp
            with_reducible rfl
           rotate_left
           ·simp only [Act.put, List.setIfInBounds_toArray, List.set_cons_zero, List.set_cons_succ, i64_w, i32_w]
            rfl
           refine pure_ (i := 4) (N := some 40) (v := ?_) (a' := ?_) #[true, true, true, true, true, false, true, true, true, false, true, true, false, true, true, false, true, true, false, false, false, false, false, false] rfl rfl (any_of HT_.out (by kernel_rfl)) (fun _ _ _ h => h) (Or.inl ⟨by rfl, ?_⟩) ?_ ?_
           rotate_left
           ·intro w'
            go_simp
            with_reducible rfl
           rotate_left
           ·simp only [Act.put, List.setIfInBounds_toArray, List.set_cons_zero, List.set_cons_succ, i64_w, i32_w]
            rfl
           refine take_ (i := 9) (N := some 45) (v := ?_) (a' := ?_) #[true, true, true, true, true, false, true, true, true, true, true, true, false, true, true, false, true, true, false, false, false, false, false, false] rfl rfl (take_ofW HT_.out HW_.out (by kernel_rfl)) (fun _ _ _ h => h) (Or.inl ⟨by rfl, ?_⟩) hHeld ?_ ?_
           rotate_left
           ·rintro w' ⟨s0, s1, s2⟩
            go_simp
            with_reducible rfl
           rotate_left
           ·simp only [Act.put, List.setIfInBounds_toArray, List.set_cons_zero, List.set_cons_succ, i64_w, i32_w]
            rfl
           refine take_ (i := 15) (N := some 51) (v := ?_) (a' := ?_) #[true, true, true, true, true, false, true, true, true, true, true, true, false, true, true, true, true, true, false, false, false, false, false, false] rfl rfl (take_ofW HT_.out HW_.out (by kernel_rfl)) (fun _ _ _ h => h) (Or.inl ⟨by rfl, ?_⟩) hHeld ?_ ?_
           rotate_left
           ·rintro w' ⟨s0, s1, s2⟩
            go_simp
            with_reducible rfl
           rotate_left
           ·simp only [Act.put, List.setIfInBounds_toArray, List.set_cons_zero, List.set_cons_succ, i64_w, i32_w]
            rfl
           refine one_ (i := 5) (N := some 41) #[true, true, true, true, true, true, true, true, true, true, true, true, false, true, true, true, true, true, false, false, false, false, false, false] rfl rfl (one_of HT_.out (by kernel_rfl)) (by decide) (fun K hK => ?_)
           refine goes_ Try.func49 (by kernel_rfl) rfl #[.slice A1_0 (l1_0.take ((ji16) : Int).toNat).length c1_0] (by rfl) rfl rfl (by (try simp only [List.map_toArray, List.map_cons, List.map_nil]); first | done | (rw [show (l1_0.take ((ji16) : Int).toNat).length = (ji16).toNat from (by rw [List.length_take]; have h_ : ((ji16) : Int) ≤ (l1_0.length : Int) := of_decide_eq_true asm; omega)] <;> rfl) | (simp only [hji16]; rfl) | rfl | (simp only [List.length_drop, List.length_take]; rfl)) ?_
           with_reducible refine (slices_Clone_int_int.calls _ _ (l1_0.take ((ji16) : Int).toNat) t255 _ ?side1 ?side2 A19.out).mono ?_
           (case side1 => repeat (first | exact (Kd.C_below HR254.out HB.out) | (with_reducible refine Kd.C_alloc ?_ _) | (with_reducible refine Kd.C_drewN ?_ _) | (with_reducible refine Kd.C_drew ?_)))
           (case side2 => exact HC254.out)
           rintro e w27 ⟨v256, rfl, ho0, hb⟩
           refine ⟨_, rfl, ?_⟩
           have n0_ := Aside0.mk (Kd.R_elder' (rr HO_8.out) (Kd.R_base ho0) hb)
           have n1_ := Aside0.mk (Kd.R_lower ho0 (below_size bel))
           have n2_ := Aside0.mk (bkb BK251.out hb)
           have n3_ := Aside0.mk (bkb BK252.out hb)
           have n4_ := Aside0.mk (below_step bel hb)
           clear HO_8
           clear BK251
           clear BK252
           clear HB
           have HO_8 := n0_
           have HO257 := n1_
           have BK251 := n2_
           have BK252 := n3_
           have HB := n4_
           clear n0_ n1_ n2_ n3_ n4_
           (try clear hb)
           (try clear hb2)
           (try clear hk)
           (try clear hi)
           (try clear ho0)
           refine hK.out _ _ ⟨(blk_cell BK252.out 0).trans rfl, (blk_cell BK252.out 1).trans rfl, (blk_cell BK252.out 2).trans rfl⟩ (fun hHeld => ?_)
           clear hK K
           refine norm_ (a' := ?_) ?_ ?_
           rotate_left
           ·show Act.put _ (some 41) _ = _
            simp only [Act.put, List.setIfInBounds_toArray, List.set_cons_zero, List.set_cons_succ, i64_w, i32_w]
            rfl
           refine one_ (i := 12) (N := some 48) #[true, true, true, true, true, true, true, true, true, true, true, true, true, true, true, true, true, true, false, false, false, false, false, false] rfl rfl (one_of HT_.out (by kernel_rfl)) (by decide) (fun K hK => ?_)
           refine goes_ Try.func48 (by kernel_rfl) rfl #[.slice A1_1 l1_1.length c1_1, .int .i64 x9_2, .int .i64 ji16] (by rfl) rfl rfl (by (try simp only [List.map_toArray, List.map_cons, List.map_nil]); first | done | (simp only [hji16]; rfl) | rfl | (simp only [List.length_drop, List.length_take]; rfl)) ?_
           with_reducible refine (block_window.calls k2 _ _ l1_1 x9_2 ji16 t258 _ ?side1 ?side2 A20.out).mono ?_
           (case side1 => repeat (first | exact (Kd.C_below HR1_1.out HB.out) | (with_reducible refine Kd.C_alloc ?_ _) | (with_reducible refine Kd.C_drewN ?_ _) | (with_reducible refine Kd.C_drew ?_)))
           (case side2 => exact HC1_1.out)
           rintro e w28 ⟨v259, rfl, ho0, hb⟩
           refine ⟨_, rfl, ?_⟩
           have n0_ := Aside0.mk (Kd.R_elder' (rr HO_8.out) (Kd.R_base ho0) hb)
           have n1_ := Aside0.mk (Kd.R_below (rr HO257.out) hb)
           have n2_ := Aside0.mk (Kd.R_lower ho0 (below_size bel))
           have n3_ := Aside0.mk (bkb BK251.out hb)
           have n4_ := Aside0.mk (bkb BK252.out hb)
           have n5_ := Aside0.mk (below_step bel hb)
           clear HO_8
           clear HO257
           clear BK251
           clear BK252
           clear HB
           have HO_8 := n0_
           have HO257 := n1_
           have HO260 := n2_
           have BK251 := n3_
           have BK252 := n4_
           have HB := n5_
           clear n0_ n1_ n2_ n3_ n4_ n5_
           (try clear hb)
           (try clear hb2)
           (try clear hk)
           (try clear hi)
           (try clear ho0)
           refine hK.out _ _ ⟨(blk_cell BK252.out 0).trans rfl, (blk_cell BK252.out 1).trans rfl, (blk_cell BK252.out 2).trans rfl⟩ (fun hHeld => ?_)
           clear hK K
           refine norm_ (a' := ?_) ?_ ?_
           rotate_left
           ·show Act.put _ (some 48) _ = _
            simp only [Act.put, List.setIfInBounds_toArray, List.set_cons_zero, List.set_cons_succ, i64_w, i32_w]
            rfl
           refine one_ (i := 18) (N := some 54) #[true, true, true, true, true, true, true, true, true, true, true, true, true, true, true, true, true, true, true, false, false, false, false, false] rfl rfl (one_of HT_.out (by kernel_rfl)) (by decide) (fun K hK => ?_)
           refine goes_ Try.func48 (by kernel_rfl) rfl #[.slice A1_2 l1_2.length c1_2, .int .i64 x9_2, .int .i64 ji16] (by rfl) rfl rfl (by (try simp only [List.map_toArray, List.map_cons, List.map_nil]); first | done | (simp only [hji16]; rfl) | rfl | (simp only [List.length_drop, List.length_take]; rfl)) ?_
           with_reducible refine (block_window.calls k2 _ _ l1_2 x9_2 ji16 t261 _ ?side1 ?side2 A21.out).mono ?_
           (case side1 => repeat (first | exact (Kd.C_below HR1_2.out HB.out) | (with_reducible refine Kd.C_alloc ?_ _) | (with_reducible refine Kd.C_drewN ?_ _) | (with_reducible refine Kd.C_drew ?_)))
           (case side2 => exact HC1_2.out)
           rintro e w29 ⟨v262, rfl, ho0, hb⟩
           refine ⟨_, rfl, ?_⟩
           have n0_ := Aside0.mk (Kd.R_elder' (rr HO_8.out) (Kd.R_base ho0) hb)
           have n1_ := Aside0.mk (Kd.R_below (rr HO257.out) hb)
           have n2_ := Aside0.mk (Kd.R_elder' (rr HO260.out) (Kd.R_base ho0) hb)
           have n3_ := Aside0.mk (Kd.R_lower (Kd.R_new' ho0 (Kd.R_lt (rr HO260.out))) (below_size bel))
           have n4_ := Aside0.mk (bkb BK251.out hb)
           have n5_ := Aside0.mk (bkb BK252.out hb)
           have n6_ := Aside0.mk (below_step bel hb)
           clear HO_8
           clear HO257
           clear HO260
           clear BK251
           clear BK252
           clear HB
           have HO_8 := n0_
           have HO257 := n1_
           have HO260 := n2_
           have HO263 := n3_
           have BK251 := n4_
           have BK252 := n5_
           have HB := n6_
           clear n0_ n1_ n2_ n3_ n4_ n5_ n6_
           (try clear hb)
           (try clear hb2)
           (try clear hk)
           (try clear hi)
           (try clear ho0)
           obtain ⟨Ao30, co30, eo30⟩ := Kd.R_slice HO263.out
           (first | subst eo30 | (injection eo30 with f1_ f2_ f3_; have f4_ := f1_.symm; have f5_ := f3_.symm; clear f1_ f2_ f3_; subst f4_; subst f5_))
           obtain ⟨Ao31, co31, eo31⟩ := Kd.R_slice HO260.out
           (first | subst eo31 | (injection eo31 with f1_ f2_ f3_; have f4_ := f1_.symm; have f5_ := f3_.symm; clear f1_ f2_ f3_; subst f4_; subst f5_))
           obtain ⟨Ao32, co32, eo32⟩ := Kd.R_slice HO257.out
           (first | subst eo32 | (injection eo32 with f1_ f2_ f3_; have f4_ := f1_.symm; have f5_ := f3_.symm; clear f1_ f2_ f3_; subst f4_; subst f5_))
           refine hK.out _ _ ⟨(blk_cell BK252.out 0).trans rfl, (blk_cell BK252.out 1).trans rfl, (blk_cell BK252.out 2).trans rfl⟩ (fun hHeld => ?_)
           clear hK K
           refine norm_ (a' := ?_) ?_ ?_
           rotate_left
           ·show Act.put _ (some 54) _ = _
            simp only [Act.put, List.setIfInBounds_toArray, List.set_cons_zero, List.set_cons_succ, i64_w, i32_w]
            rfl
           refine pure_ (i := 19) (N := some 55) (v := ?_) (a' := ?_) #[true, true, true, true, true, true, true, true, true, true, true, true, true, true, true, true, true, true, true, true, false, false, false, false] rfl rfl (any_of HT_.out (by kernel_rfl)) (fun _ _ _ h => h) (Or.inl ⟨by rfl, ?_⟩) ?_ ?_
           rotate_left
           ·intro w'
            go_simp
            with_reducible rfl
           rotate_left
           ·simp only [Act.put, List.setIfInBounds_toArray, List.set_cons_zero, List.set_cons_succ, i64_w, i32_w]
            rfl
           refine pure_ (i := 20) (N := some 56) (v := ?_) (a' := ?_) #[true, true, true, true, true, true, true, true, true, true, true, true, true, true, true, true, true, true, true, true, true, false, false, false] rfl rfl (any_of HT_.out (by kernel_rfl)) (fun _ _ _ h => h) (Or.inl ⟨by rfl, ?_⟩) ?_ ?_
           rotate_left
           ·intro w'
            go_simp
            with_reducible rfl
           rotate_left
           ·simp only [Act.put, List.setIfInBounds_toArray, List.set_cons_zero, List.set_cons_succ, i64_w, i32_w]
            rfl
           refine one_ (i := 21) (N := some 57) #[true, true, true, true, true, true, true, true, true, true, true, true, true, true, true, true, true, true, true, true, true, true, false, false] rfl rfl (one_of HT_.out (by kernel_rfl)) (by decide) (fun K hK => ?_)
           refine value_ (w1 := ?_) (v := ?_) (by rfl) rfl ?_ ?_
           rotate_left 2
           ·go_simp
            constructor
            ·rfl
            ·rfl
           refine hK.out _ _ ⟨(blk_cell (blk_alloc BK252.out _) 0).trans rfl, (blk_cell (blk_alloc BK252.out _) 1).trans rfl, (blk_cell (blk_alloc BK252.out _) 2).trans rfl⟩ (fun hHeld => ?_)
           clear hK K
           refine norm_ (a' := ?_) ?_ ?_
           rotate_left
           ·show Act.put _ (some 57) _ = _
            simp only [Act.put, List.setIfInBounds_toArray, List.set_cons_zero, List.set_cons_succ, i64_w, i32_w]
            rfl
           refine one_ (i := 22) (N := some 58) #[true, true, true, true, true, true, true, true, true, true, true, true, true, true, true, true, true, true, true, true, true, true, true, false] rfl rfl (one_of HT_.out (by kernel_rfl)) (by decide) (fun K hK => ?_)
           refine Kd.R_append_step k29 (w0 := w) w.heap.size (by rfl) (.tmp 36) (.tmp 57) 46 29 (.agg #[(.slice none 0 0), (.int .i64 0), (.slice none 0 0), (.slice none 0 0)]) 80 rfl Try.underlying46 info29 rfl (by decide) (by omega) u8 x8_2 (⟨t255, x9_2, (⟨t258, t261⟩ : S27)⟩ : S29) [.slice Ao32 t255.length co32, .int .i64 x9_2, .slice Ao31 t258.length co31, .slice Ao30 t261.length co30] (fun _ => True) (fun k_ => ((fun _ => True)) k_ ∧ some k_ ≠ (u8 : Value).ownBlock) rfl rfl ?aP (fun _ hk => hk) ?aF ?aO ?aB ?aS ?aL ?_
           (case aP => exact k29_mkM _ _ _ (⟨t255, x9_2, (⟨t258, t261⟩ : S27)⟩ : S29) (Kd.R_mono (Kd.R_apart' (HO257.out) (Kd.R_typed HO_8.out) (by decide)) (fun k_ hk => ⟨trivial, hk.2⟩)) (Kd.R_mono (Kd.R_apart' (HO260.out) (Kd.R_typed HO_8.out) (by decide)) (fun k_ hk => ⟨trivial, hk.2⟩)) (Kd.R_mono (Kd.R_apart' (HO263.out) (Kd.R_typed HO_8.out) (by decide)) (fun k_ hk => ⟨trivial, hk.2⟩)))
           (case aB => exact bel)
           (case aF => exact (fun _ _ => trivial))
           (case aO => exact (by (with_reducible repeat (first | apply Kd.R_alloc | apply Kd.R_drewN | apply Kd.R_drew)); exact Kd.R_mono HO_8.out (fun _ hk => trivial)))
           (case aS => exact (below_size bel))
           (case aL => have := LMc22.out; omega)
           intro v265 w33 ho hb hg hat
           rw [← Ny264.out] at ho
           have n0_ := Aside0.mk (blk_grown (g := gb251) (o := .cells #[.int .i64 a0_0, .int .i64 a0_1, .int .i64 a0_2, .int .i64 a0_3, .int .i64 a0_4] 23 (0, 0)) (by (with_reducible repeat (first | refine blk_drewN ?_ _ | refine blk_drew ?_ | refine blk_alloc ?_ _)); exact BK251.out) hg (Kd.R_ne HO_8.out BK251.out (by decide)))
           have n1_ := Aside0.mk (blk_grown (g := gb252) (o := .cells #[.slice A1_0 l1_0.length c1_0, .slice A1_1 l1_1.length c1_1, .slice A1_2 l1_2.length c1_2] 51 (0, 0)) (by (with_reducible repeat (first | refine blk_drewN ?_ _ | refine blk_drew ?_ | refine blk_alloc ?_ _)); exact BK252.out) hg (Kd.R_ne HO_8.out BK252.out (by decide)))
           have n2_ := Aside0.mk (hb)
           have n3_ := Aside0.mk (ho)
           clear BK251
           clear BK252
           clear HB
           clear HO_8
           clear HO257
           clear HO260
           clear HO263
           have BK251 := n0_
           have BK252 := n1_
           have HB := n2_
           have HO266 := n3_
           clear n0_ n1_ n2_ n3_
           clear ho hb hg hat
           refine hK.out _ _ ⟨(blk_cell BK252.out 0).trans rfl, (blk_cell BK252.out 1).trans rfl, (blk_cell BK252.out 2).trans rfl⟩ (fun hHeld => ?_)
           clear hK K
           refine norm_ (a' := ?_) ?_ ?_
           rotate_left
           ·show Act.put _ (some 58) _ = _
            simp only [Act.put, List.setIfInBounds_toArray, List.set_cons_zero, List.set_cons_succ, i64_w, i32_w]
            rfl
           refine pure_ (i := 23) (N := some 8) (v := ?_) (a' := ?_) #[true, true, true, true, true, true, true, true, true, true, true, true, true, true, true, true, true, true, true, true, true, true, true, true] rfl rfl (any_of HT_.out (by kernel_rfl)) (fun _ _ _ h => h) (Or.inl ⟨by rfl, ?_⟩) ?_ ?_
           rotate_left
           ·intro w'
            go_simp
            with_reducible rfl
           rotate_left
           ·simp only [Act.put, List.setIfInBounds_toArray, List.set_cons_zero, List.set_cons_succ, i64_w, i32_w]
            rfl
           refine done_ (done_of HT_.out (by kernel_rfl)) ?_
           try go_wp2
           go_roundg k2
           case measure => have := HJ3.out; have := HK2.out; omega
           case rel => exact ⟨(y264), (wrap64 (x9_2 + a2)), rs, H', ⟨by have := HJ3.out; have := HK2.out; omega⟩, ⟨by (with_reducible repeat (first | apply Kd.R_alloc | apply Kd.R_drewN | apply Kd.R_drew)); exact HO266.out⟩, ⟨by (with_reducible repeat (first | refine blk_drewN ?_ _ | refine blk_drew ?_ | refine blk_alloc ?_ _)); exact BK251.out⟩, ⟨by (with_reducible repeat (first | refine blk_drewN ?_ _ | refine blk_drew ?_ | refine blk_alloc ?_ _)); exact BK252.out⟩, ⟨by repeat (first | (with_reducible first | exact HB.out | apply below_alloc | apply pw_below_drewN | apply below_drew1 | refine below_set ?_ GE251.out | refine below_set ?_ GE252.out) | exact HB.out)⟩⟩
          ·rw [if_neg c22] at H
           exact absurd H (by simp)
         ·rw [if_neg c18] at H
          exact absurd H (by simp)
        ·rw [if_neg c17] at H
         exact absurd H (by simp)
       ·rw [if_neg c15] at H
        have c15b0 : decide (x9_2 < (l1_0.length : Int)) = false := decide_eq_false c15
        clear c15
        simp only [Option.some.injEq, Prod.mk.injEq] at H
        obtain ⟨rfl, rfl⟩ := H
        have hnb34 := NB252_251.out
        have hnc34 := NB251_252.out
        obtain ⟨hcz35_0, hcz35_1, hcz35_2, hfz35_0, hfz35_1, hfz35_2⟩ := cq3 BK252.out
        go_wp2
        go_ret2
        exact ⟨_, by first | rfl | (simp [errW_none, errW_some] <;> rfl) | (simp [*, errW_none, errW_some] <;> rfl), by (with_reducible repeat (first | apply Kd.R_alloc | apply Kd.R_drewN | apply Kd.R_drew)); exact HO_8.out, by repeat (first | (with_reducible first | exact HB.out | apply below_alloc | apply pw_below_drewN | apply below_drew1 | refine below_set ?_ GE251.out | refine below_set ?_ GE252.out) | exact HB.out)⟩
    ·replace c10 := Bool.eq_false_iff.mpr c10
     subst c10
     have H1 : (some (([] : List (S29)), 4)) = some (r1, r2) := by rw [if_neg (show ¬ (false = true) by decide)] at H; exact H
     clear H
     have H := H1
     clear H1
     simp only [Option.some.injEq, Prod.mk.injEq] at H
     obtain ⟨rfl, rfl⟩ := H
     have hnb36 := NB251_252.out
     have hnc36 := NB252_251.out
     obtain ⟨hcz37_0, hcz37_1, hcz37_2, hcz37_3, hcz37_4, hfz37_0, hfz37_1, hfz37_2, hfz37_3, hfz37_4⟩ := cq5 BK251.out
     obtain ⟨hcz38_0, hcz38_1, hcz38_2, hfz38_0, hfz38_1, hfz38_2⟩ := cq3 BK252.out
     go_wp2_with (first | ((with_reducible refine gate_callee (f := 66) rfl ?_); refine goesL_ (some 19) rfl rfl Try.func66 (by kernel_rfl) rfl #[.agg #[.int .i64 a0_0, .int .i64 a0_1, .int .i64 a0_2, .int .i64 a0_3, .int .i64 a0_4], .agg #[.slice A1_0 l1_0.length c1_0, .slice A1_1 l1_1.length c1_1, .slice A1_2 l1_2.length c1_2]] rfl ar ?_; (with_reducible refine (step_Fits.calls kj3 a0_0 a0_1 a0_2 a0_3 a0_4 _ _ l1_0 _ _ l1_1 _ _ l1_2 false _ ?side1 ?side2 ?side3 ?side4 ?side5 ?side6 A9.out).mono ?_); (case side1 => repeat (first | exact (Kd.C_below HR1_0.out HB.out) | (with_reducible refine Kd.C_alloc ?_ _) | (with_reducible refine Kd.C_drewN ?_ _) | (with_reducible refine Kd.C_drew ?_))); (case side2 => exact HC1_0.out); (case side3 => repeat (first | exact (Kd.C_below HR1_1.out HB.out) | (with_reducible refine Kd.C_alloc ?_ _) | (with_reducible refine Kd.C_drewN ?_ _) | (with_reducible refine Kd.C_drew ?_))); (case side4 => exact HC1_1.out); (case side5 => repeat (first | exact (Kd.C_below HR1_2.out HB.out) | (with_reducible refine Kd.C_alloc ?_ _) | (with_reducible refine Kd.C_drewN ?_ _) | (with_reducible refine Kd.C_drew ?_))); (case side6 => exact HC1_2.out); rintro e w39 ⟨rfl, hb⟩; refine ⟨_, rfl, ?_⟩; have n0_ := Aside0.mk (bkb BK251.out hb); have n1_ := Aside0.mk (bkb BK252.out hb); have n2_ := Aside0.mk (below_step bel hb); clear BK251; clear BK252; clear HB; have BK251 := n0_; have BK252 := n1_; have HB := n2_; clear n0_ n1_ n2_; (try clear hb); (try clear hb2); (try clear hk); (try clear hi)))
     go_ret2
     exact ⟨_, by first | rfl | (simp [errW_none, errW_some] <;> rfl) | (simp [*, errW_none, errW_some] <;> rfl), by first | exact Kd.R_nil _ _ _ _ _ | exact Kd.N_nil _ _ _ _ _ | exact Kd.V_nil _ _ _ _ _ | exact Kd.Q_nil _ _ _ _ _ | exact Kd.S_nil _ _ _ _ _, by repeat (first | (with_reducible first | exact HB.out | apply below_alloc | apply pw_below_drewN | apply below_drew1 | refine below_set ?_ GE251.out | refine below_set ?_ GE252.out) | exact HB.out)⟩

/-! ### tillerlaw11_small: function 41 -/
def tillerlaw11_small.f  : Option (Int × Int × Int × Int × Int) := some (9, 1, 1, 1, 1)
set_option maxHeartbeats 8000000 in
set_option maxRecDepth 100000 in
theorem tillerlaw11_small.calls  (r1 : Int) (r2 : Int) (r3 : Int) (r4 : Int) (r5 : Int) (w : World) (h : tillerlaw11_small.f  = some (r1, r2, r3, r4, r5)) :
  Calls Try.prog 41 #[] w fun e w' => e = .returned (.agg #[.int .i64 r1, .int .i64 r2, .int .i64 r3, .int .i64 r4, .int .i64 r5]) ∧ Below w.heap.size w w' := by
 have hu23 := Try.underlying23
 have HB := Aside0.mk (Below.refl w.heap.size w)
 have H : (some (9, 1, 1, 1, 1)) = some (r1, r2, r3, r4, r5) := h
 clear h
 simp only [Option.some.injEq, Prod.mk.injEq] at H
 obtain ⟨rfl, rfl, rfl, rfl, rfl⟩ := H
 go_enter Try.func41, Try.ntmps41
 go_wp2_with (first | ((with_reducible refine gate_dst (N := 0) rfl ?_); refine bxe (N := 0) (cs := #[.int .i64 0, .int .i64 0, .int .i64 0, .int .i64 0, .int .i64 0]) (t := 23) ?_; intro gb267 hg w1 hbox hb; have n0_ := Aside0.mk (below_step bel hb); have n1_ := Aside0.mk (hbox); have n2_ := Aside0.mk ((bsz hg : w.heap.size ≤ gb267)); have n3_ := Aside0.mk ((bsz hg : w.heap.size ≤ gb267)); clear HB; have HB := n0_; have BK267 := n1_; have GW267 := n2_; have GE267 := n3_; clear n0_ n1_ n2_ n3_; clear hb hbox hg; obtain ⟨hcz2_0, hcz2_1, hcz2_2, hcz2_3, hcz2_4, hfz2_0, hfz2_1, hfz2_2, hfz2_3, hfz2_4⟩ := cq5 BK267.out))
 refine bodyPost_ret (results_cell_row rfl _ _ gb267 23 #[.int .i64 9, .int .i64 1, .int .i64 1, .int .i64 1, .int .i64 1] (0, 0) _ rfl (bkp BK267.out) Try.underlying23 rfl (by kernel_rfl)) rfl ?_
 exact ⟨by first | rfl | (simp [errW_none, errW_some] <;> rfl) | (simp [*, errW_none, errW_some] <;> rfl), by repeat (first | (with_reducible first | exact HB.out | apply below_alloc | apply pw_below_drewN | apply below_drew1 | refine below_set ?_ GE267.out) | exact HB.out)⟩

/-! ### tillerlaw11_ref0: function 42 -/
def tillerlaw11_ref0.f  : Option (List Int × Int × (List (List (List Int))) × (List (List (List Int)))) := some ((([5] : List Int)), 0, (([(([(([1] : List Int))] : List (List Int)))] : List (List (List Int)))), (([(([(([(-1)] : List Int))] : List (List Int)))] : List (List (List Int)))))
set_option maxHeartbeats 8000000 in
set_option maxRecDepth 100000 in
theorem tillerlaw11_ref0.calls  (r1 : List Int) (r2 : Int) (r3 : List (List (List Int))) (r4 : List (List (List Int))) (w : World) (h : tillerlaw11_ref0.f  = some (r1, r2, r3, r4)) :
  Calls Try.prog 42 #[] w fun e w' => ∃ v0_ v2_ v3_ : Value, e = .returned (.agg #[v0_, .int .i64 r2, v2_, v3_]) ∧ Kd.R (Kd.int .i64) 3 w' w.heap.size (fun k_ => (w.heap.size ≤ k_)) v0_ r1 ∧ Kd.N (Kd.slice 61 (Kd.slice 72 (Kd.int .i32))) 62 w' w.heap.size (fun k_ => (w.heap.size ≤ k_) ∧ some k_ ≠ (v0_ : Value).ownBlock ∧ some k_ ≠ (v3_ : Value).ownBlock) v2_ r3 ∧ Kd.N (Kd.slice 61 (Kd.slice 72 (Kd.int .i32))) 62 w' w.heap.size (fun k_ => (w.heap.size ≤ k_) ∧ some k_ ≠ (v0_ : Value).ownBlock ∧ some k_ ≠ (v2_ : Value).ownBlock) v3_ r4 ∧ Below w.heap.size w w' := by
 have hu29 := Try.underlying29
 have hu27 := Try.underlying27
 have HB := Aside0.mk (Below.refl w.heap.size w)
 have H : (some ((([5] : List Int)), 0, (([(([(([1] : List Int))] : List (List Int)))] : List (List (List Int)))), (([(([(([(-1)] : List Int))] : List (List Int)))] : List (List (List Int)))))) = some (r1, r2, r3, r4) := h
 clear h
 obtain ⟨y269, hy269⟩ : ∃ y_ : List Int, y_ = (([5] : List Int)) := ⟨_, rfl⟩
 replace H : (some (y269, 0, (([(([(([1] : List Int))] : List (List Int)))] : List (List (List Int)))), (([(([(([(-1)] : List Int))] : List (List Int)))] : List (List (List Int)))))) = some (r1, r2, r3, r4) := by first | (rw [hy269]; with_reducible exact H) | (have H2_ := (Option.bind_some _ _).symm.trans H; rw [hy269]; with_reducible exact H2_) | (have H2_ := (Option.bind_some _ _).symm.trans H; with_reducible exact H2_) | with_reducible exact H | (rw [hy269]; exact H) | exact H
 have Ny269 := Aside0.mk hy269
 clear hy269
 obtain ⟨y272, hy272⟩ : ∃ y_ : List Int, y_ = (([1] : List Int)) := ⟨_, rfl⟩
 replace H : (some (y269, 0, (([(([y272] : List (List Int)))] : List (List (List Int)))), (([(([(([(-1)] : List Int))] : List (List Int)))] : List (List (List Int)))))) = some (r1, r2, r3, r4) := by first | (rw [hy272]; with_reducible exact H) | (have H2_ := (Option.bind_some _ _).symm.trans H; rw [hy272]; with_reducible exact H2_) | (have H2_ := (Option.bind_some _ _).symm.trans H; with_reducible exact H2_) | with_reducible exact H | (rw [hy272]; exact H) | exact H
 have Ny272 := Aside0.mk hy272
 clear hy272
 obtain ⟨y275, hy275⟩ : ∃ y_ : List (List Int), y_ = (([y272] : List (List Int))) := ⟨_, rfl⟩
 replace H : (some (y269, 0, (([y275] : List (List (List Int)))), (([(([(([(-1)] : List Int))] : List (List Int)))] : List (List (List Int)))))) = some (r1, r2, r3, r4) := by first | (rw [hy275]; with_reducible exact H) | (have H2_ := (Option.bind_some _ _).symm.trans H; rw [hy275]; with_reducible exact H2_) | (have H2_ := (Option.bind_some _ _).symm.trans H; with_reducible exact H2_) | with_reducible exact H | (rw [hy275]; exact H) | exact H
 have Ny275 := Aside0.mk hy275
 clear hy275
 obtain ⟨y278, hy278⟩ : ∃ y_ : List (List (List Int)), y_ = (([y275] : List (List (List Int)))) := ⟨_, rfl⟩
 replace H : (some (y269, 0, y278, (([(([(([(-1)] : List Int))] : List (List Int)))] : List (List (List Int)))))) = some (r1, r2, r3, r4) := by first | (rw [hy278]; with_reducible exact H) | (have H2_ := (Option.bind_some _ _).symm.trans H; rw [hy278]; with_reducible exact H2_) | (have H2_ := (Option.bind_some _ _).symm.trans H; with_reducible exact H2_) | with_reducible exact H | (rw [hy278]; exact H) | exact H
 have Ny278 := Aside0.mk hy278
 clear hy278
 obtain ⟨y281, hy281⟩ : ∃ y_ : List Int, y_ = (([(-1)] : List Int)) := ⟨_, rfl⟩
 replace H : (some (y269, 0, y278, (([(([y281] : List (List Int)))] : List (List (List Int)))))) = some (r1, r2, r3, r4) := by first | (rw [hy281]; with_reducible exact H) | (have H2_ := (Option.bind_some _ _).symm.trans H; rw [hy281]; with_reducible exact H2_) | (have H2_ := (Option.bind_some _ _).symm.trans H; with_reducible exact H2_) | with_reducible exact H | (rw [hy281]; exact H) | exact H
 have Ny281 := Aside0.mk hy281
 clear hy281
 obtain ⟨y284, hy284⟩ : ∃ y_ : List (List Int), y_ = (([y281] : List (List Int))) := ⟨_, rfl⟩
 replace H : (some (y269, 0, y278, (([y284] : List (List (List Int)))))) = some (r1, r2, r3, r4) := by first | (rw [hy284]; with_reducible exact H) | (have H2_ := (Option.bind_some _ _).symm.trans H; rw [hy284]; with_reducible exact H2_) | (have H2_ := (Option.bind_some _ _).symm.trans H; with_reducible exact H2_) | with_reducible exact H | (rw [hy284]; exact H) | exact H
 have Ny284 := Aside0.mk hy284
 clear hy284
 obtain ⟨y287, hy287⟩ : ∃ y_ : List (List (List Int)), y_ = (([y284] : List (List (List Int)))) := ⟨_, rfl⟩
 replace H : (some (y269, 0, y278, y287)) = some (r1, r2, r3, r4) := by first | (rw [hy287]; with_reducible exact H) | (have H2_ := (Option.bind_some _ _).symm.trans H; rw [hy287]; with_reducible exact H2_) | (have H2_ := (Option.bind_some _ _).symm.trans H; with_reducible exact H2_) | with_reducible exact H | (rw [hy287]; exact H) | exact H
 have Ny287 := Aside0.mk hy287
 clear hy287
 simp only [Option.some.injEq, Prod.mk.injEq] at H
 obtain ⟨rfl, rfl, rfl, rfl⟩ := H
 go_enter Try.func42, Try.ntmps42
 go_wp2_with (first | ((with_reducible refine gate_dst (N := 0) rfl ?_); refine bxe (N := 0) (cs := #[.slice none 0 0, .int .i64 0, .slice none 0 0, .slice none 0 0]) (t := 29) ?_; intro gb268 hg w1 hbox hb; have n0_ := Aside0.mk (below_step bel hb); have n1_ := Aside0.mk (hbox); have n2_ := Aside0.mk ((bsz hg : w.heap.size ≤ gb268)); have n3_ := Aside0.mk ((bsz hg : w.heap.size ≤ gb268)); clear HB; have HB := n0_; have BK268 := n1_; have GW268 := n2_; have GE268 := n3_; clear n0_ n1_ n2_ n3_; clear hb hbox hg) | ((with_reducible refine gate_dst (N := 1) rfl ?_); refine Kd.R_lit (Kd.int .i64) _ 3 ?hg (N := 1) ?hd (xs := ([5] : List Int)) (inner := [.int .i64 5]) (ok := fun _ => True) (okp := fun _ => True) ?hr ?hp (fun _ hk => hk) trivial (Below.refl _ _) (Nat.le_refl _) (by simp) ?_; (case hd => rfl); (case hg => rfl); (case hr => first | (go_simp; done) | (go_simp; rfl)); (case hp => exact (Reps.one (show Kd.M (Kd.int .i64) _ _ _ 5 [.int .i64 5] from rfl) (Reps.none _ _))); intro v270 w2 ho3 hb hg_ hnew_; clear hg_ hnew_; (first | rw [← Ny269.out] at ho3 | (simp only [Int.reduceToNat] at ho3; rw [← Ny269.out] at ho3)); have n0_ := Aside0.mk (Kd.R_lower (Kd.R_newM (M := fun k_ => (w.heap.size ≤ k_)) ho3 (below_size bel) (fun k_ h_ => h_)) (below_size bel)); have n1_ := Aside0.mk (bkb BK268.out hb); have n2_ := Aside0.mk (below_step bel hb); clear BK268; clear HB; have HO271 := n0_; have BK268 := n1_; have HB := n2_; clear n0_ n1_ n2_; clear hb ho3) | ((with_reducible refine gate_dst (N := 2) rfl ?_); refine Kd.R_lit (Kd.int .i32) _ 72 ?hg (N := 2) ?hd (xs := ([1] : List Int)) (inner := [.int .i32 1]) (ok := fun _ => True) (okp := fun _ => True) ?hr ?hp (fun _ hk => hk) trivial (Below.refl _ _) (Nat.le_refl _) (by simp) ?_; (case hd => rfl); (case hg => rfl); (case hr => first | (go_simp; done) | (go_simp; rfl)); (case hp => exact (Reps.one (show Kd.M (Kd.int .i32) _ _ _ 1 [.int .i32 1] from rfl) (Reps.none _ _))); intro v273 w4 ho5 hb hg_ hnew_; clear hg_ hnew_; (first | rw [← Ny272.out] at ho5 | (simp only [Int.reduceToNat] at ho5; rw [← Ny272.out] at ho5)); have n0_ := Aside0.mk (Kd.R_below (rr HO271.out) hb); have n1_ := Aside0.mk (Kd.R_lower (Kd.R_newM (M := fun k_ => (w.heap.size ≤ k_)) ho5 (below_size bel) (fun k_ h_ => h_)) (below_size bel)); have n2_ := Aside0.mk (bkb BK268.out hb); have n3_ := Aside0.mk (below_step bel hb); clear HO271; clear BK268; clear HB; have HO271 := n0_; have HO274 := n1_; have BK268 := n2_; have HB := n3_; clear n0_ n1_ n2_ n3_; clear hb ho5; obtain ⟨Ao6, co6, eo6⟩ := Kd.R_slice HO274.out; subst eo6) | ((with_reducible refine gate_dst (N := 3) rfl ?_); refine Kd.N_lit (Kd.slice 72 (Kd.int .i32)) _ 61 ?hg (N' := 3) ?hd (xs := ([y272] : List (List Int))) (inner := [.slice Ao6 y272.length co6]) (ok := (fun k_ => (w.heap.size ≤ k_) ∧ some k_ ≠ (v270 : Value).ownBlock ∧ k_ ≠ gb268)) (okp := (fun k_ => (w.heap.size ≤ k_) ∧ some k_ ≠ (v270 : Value).ownBlock ∧ k_ ≠ gb268)) ?hr ?hp (fun _ hk => hk) ((show ∀ k_, w4.heap.size ≤ k_ → (fun k_ => (w.heap.size ≤ k_) ∧ some k_ ≠ (v270 : Value).ownBlock ∧ k_ ≠ gb268) k_ from fun k_ hk => ⟨(Nat.le_trans (below_size bel) hk), Kd.fresh' (Kd.R_lt (rr HO271.out)) k_ hk, Kd.freshB (g := gb268) (o := .cells #[.slice none 0 0, .int .i64 0, .slice none 0 0, .slice none 0 0] 29 (0, 0)) (by (with_reducible repeat (first | refine blk_drewN ?_ _ | refine blk_drew ?_ | refine blk_alloc ?_ _)); exact BK268.out) k_ hk⟩) _ (Nat.le_refl _)) (Below.refl _ _) (Nat.le_refl _) (by simp) ?_; (case hd => rfl); (case hg => rfl); (case hr => first | (go_simp; done) | (go_simp; rfl)); (case hp => exact (Reps.one (show Kd.FK (Kd.slice 72 (Kd.int .i32)) _ _ y272 [.slice Ao6 y272.length co6] from (Kd.FK_slice_mk (Kd.R_reads' (Kd.R_mono (ok' := (fun k_ => (w.heap.size ≤ k_) ∧ some k_ ≠ (v270 : Value).ownBlock ∧ k_ ≠ gb268)) (Kd.R_types (Kd.R_apart' (HO274.out) (Kd.R_typed HO271.out) (by decide)) BK268.out (by decide)) (fun k_ hk => ⟨hk.1.1.1, ⟨hk.1.2, hk.2⟩⟩))).2.1 (Kd.R_F (Kd.R_mono (ok' := (fun k_ => (w.heap.size ≤ k_) ∧ some k_ ≠ (v270 : Value).ownBlock ∧ k_ ≠ gb268)) (Kd.R_types (Kd.R_apart' (HO274.out) (Kd.R_typed HO271.out) (by decide)) BK268.out (by decide)) (fun k_ hk => ⟨hk.1.1.1, ⟨hk.1.2, hk.2⟩⟩))))) (Reps.none _ _))); intro v276 w7 ho8 hb hg_ hnew_; clear hg_ hnew_; (first | rw [← Ny275.out] at ho8 | (simp only [Int.reduceToNat] at ho8; rw [← Ny275.out] at ho8)); have n0_ := Aside0.mk (Kd.R_below (rr HO271.out) hb); have n1_ := Aside0.mk (Kd.N_lower ho8 (below_size bel)); have n2_ := Aside0.mk (bkb BK268.out hb); have n3_ := Aside0.mk (below_step bel hb); clear HO271; clear BK268; clear HB; clear HO274; have HO271 := n0_; have HO277 := n1_; have BK268 := n2_; have HB := n3_; clear n0_ n1_ n2_ n3_; clear hb ho8; obtain ⟨Ao9, co9, eo9⟩ := Kd.N_slice HO277.out; subst eo9) | ((with_reducible refine gate_dst (N := 4) rfl ?_); refine Kd.N_lit (Kd.slice 61 (Kd.slice 72 (Kd.int .i32))) _ 62 ?hg (N' := 4) ?hd (xs := ([y275] : List (List (List Int)))) (inner := [.slice Ao9 y275.length co9]) (ok := (fun k_ => (w.heap.size ≤ k_) ∧ some k_ ≠ (v270 : Value).ownBlock ∧ k_ ≠ gb268)) (okp := (fun k_ => (w.heap.size ≤ k_) ∧ some k_ ≠ (v270 : Value).ownBlock ∧ k_ ≠ gb268)) ?hr ?hp (fun _ hk => hk) ((show ∀ k_, w7.heap.size ≤ k_ → (fun k_ => (w.heap.size ≤ k_) ∧ some k_ ≠ (v270 : Value).ownBlock ∧ k_ ≠ gb268) k_ from fun k_ hk => ⟨(Nat.le_trans (below_size bel) hk), Kd.fresh' (Kd.R_lt (rr HO271.out)) k_ hk, Kd.freshB (g := gb268) (o := .cells #[.slice none 0 0, .int .i64 0, .slice none 0 0, .slice none 0 0] 29 (0, 0)) (by (with_reducible repeat (first | refine blk_drewN ?_ _ | refine blk_drew ?_ | refine blk_alloc ?_ _)); exact BK268.out) k_ hk⟩) _ (Nat.le_refl _)) (Below.refl _ _) (Nat.le_refl _) (by simp) ?_; (case hd => rfl); (case hg => rfl); (case hr => first | (go_simp; done) | (go_simp; rfl)); (case hp => exact (Reps.one (show Kd.FK (Kd.slice 61 (Kd.slice 72 (Kd.int .i32))) _ _ y275 [.slice Ao9 y275.length co9] from (Kd.FK_slice_mk (Kd.N_reads' (Kd.N_mono (ok' := (fun k_ => (w.heap.size ≤ k_) ∧ some k_ ≠ (v270 : Value).ownBlock ∧ k_ ≠ gb268)) (HO277.out) (fun k_ hk => ⟨hk.1, ⟨hk.2.1, hk.2.2⟩⟩))).2.1 (Kd.N_F (Kd.N_mono (ok' := (fun k_ => (w.heap.size ≤ k_) ∧ some k_ ≠ (v270 : Value).ownBlock ∧ k_ ≠ gb268)) (HO277.out) (fun k_ hk => ⟨hk.1, ⟨hk.2.1, hk.2.2⟩⟩))))) (Reps.none _ _))); intro v279 w10 ho11 hb hg_ hnew_; clear hg_ hnew_; (first | rw [← Ny278.out] at ho11 | (simp only [Int.reduceToNat] at ho11; rw [← Ny278.out] at ho11)); have n0_ := Aside0.mk (Kd.R_below (rr HO271.out) hb); have n1_ := Aside0.mk (Kd.N_lower ho11 (below_size bel)); have n2_ := Aside0.mk (bkb BK268.out hb); have n3_ := Aside0.mk (below_step bel hb); clear HO271; clear BK268; clear HB; clear HO277; have HO271 := n0_; have HO280 := n1_; have BK268 := n2_; have HB := n3_; clear n0_ n1_ n2_ n3_; clear hb ho11) | ((with_reducible refine gate_dst (N := 5) rfl ?_); refine Kd.R_lit (Kd.int .i32) _ 72 ?hg (N := 5) ?hd (xs := ([(-1)] : List Int)) (inner := [.int .i32 (-1)]) (ok := fun _ => True) (okp := fun _ => True) ?hr ?hp (fun _ hk => hk) trivial (Below.refl _ _) (Nat.le_refl _) (by simp) ?_; (case hd => rfl); (case hg => rfl); (case hr => first | (go_simp; done) | (go_simp; rfl)); (case hp => exact (Reps.one (show Kd.M (Kd.int .i32) _ _ _ (-1) [.int .i32 (-1)] from rfl) (Reps.none _ _))); intro v282 w12 ho13 hb hg_ hnew_; clear hg_ hnew_; (first | rw [← Ny281.out] at ho13 | (simp only [Int.reduceToNat] at ho13; rw [← Ny281.out] at ho13)); have n0_ := Aside0.mk (Kd.R_below (rr HO271.out) hb); have n1_ := Aside0.mk (Kd.N_elder' (by (with_reducible repeat (first | apply Kd.N_alloc | apply Kd.N_drewN | apply Kd.N_drew)); exact HO280.out) (Kd.R_base ho13) hb); have n2_ := Aside0.mk (Kd.R_lower (Kd.R_newM (M := fun k_ => (w.heap.size ≤ k_)) ho13 (below_size bel) (fun k_ h_ => h_)) (below_size bel)); have n3_ := Aside0.mk (bkb BK268.out hb); have n4_ := Aside0.mk (below_step bel hb); clear HO271; clear HO280; clear BK268; clear HB; have HO271 := n0_; have HO280 := n1_; have HO283 := n2_; have BK268 := n3_; have HB := n4_; clear n0_ n1_ n2_ n3_ n4_; clear hb ho13; obtain ⟨Ao14, co14, eo14⟩ := Kd.R_slice HO283.out; subst eo14) | ((with_reducible refine gate_dst (N := 6) rfl ?_); refine Kd.N_lit (Kd.slice 72 (Kd.int .i32)) _ 61 ?hg (N' := 6) ?hd (xs := ([y281] : List (List Int))) (inner := [.slice Ao14 y281.length co14]) (ok := (fun k_ => (w.heap.size ≤ k_) ∧ some k_ ≠ (v270 : Value).ownBlock ∧ some k_ ≠ (v279 : Value).ownBlock ∧ k_ ≠ gb268)) (okp := (fun k_ => (w.heap.size ≤ k_) ∧ some k_ ≠ (v270 : Value).ownBlock ∧ some k_ ≠ (v279 : Value).ownBlock ∧ k_ ≠ gb268)) ?hr ?hp (fun _ hk => hk) ((show ∀ k_, w12.heap.size ≤ k_ → (fun k_ => (w.heap.size ≤ k_) ∧ some k_ ≠ (v270 : Value).ownBlock ∧ some k_ ≠ (v279 : Value).ownBlock ∧ k_ ≠ gb268) k_ from fun k_ hk => ⟨(Nat.le_trans (below_size bel) hk), Kd.fresh' (Kd.R_lt (rr HO271.out)) k_ hk, Kd.fresh' (Kd.N_lt (by (with_reducible repeat (first | apply Kd.N_alloc | apply Kd.N_drewN | apply Kd.N_drew)); exact HO280.out)) k_ hk, Kd.freshB (g := gb268) (o := .cells #[.slice none 0 0, .int .i64 0, .slice none 0 0, .slice none 0 0] 29 (0, 0)) (by (with_reducible repeat (first | refine blk_drewN ?_ _ | refine blk_drew ?_ | refine blk_alloc ?_ _)); exact BK268.out) k_ hk⟩) _ (Nat.le_refl _)) (Below.refl _ _) (Nat.le_refl _) (by simp) ?_; (case hd => rfl); (case hg => rfl); (case hr => first | (go_simp; done) | (go_simp; rfl)); (case hp => exact (Reps.one (show Kd.FK (Kd.slice 72 (Kd.int .i32)) _ _ y281 [.slice Ao14 y281.length co14] from (Kd.FK_slice_mk (Kd.R_reads' (Kd.R_mono (ok' := (fun k_ => (w.heap.size ≤ k_) ∧ some k_ ≠ (v270 : Value).ownBlock ∧ some k_ ≠ (v279 : Value).ownBlock ∧ k_ ≠ gb268)) (Kd.R_types (Kd.R_apart' (Kd.R_apart' (HO283.out) (Kd.R_typed HO271.out) (by decide)) (Kd.N_typed HO280.out) (by decide)) BK268.out (by decide)) (fun k_ hk => ⟨hk.1.1.1.1, ⟨hk.1.1.2, ⟨hk.1.2, hk.2⟩⟩⟩))).2.1 (Kd.R_F (Kd.R_mono (ok' := (fun k_ => (w.heap.size ≤ k_) ∧ some k_ ≠ (v270 : Value).ownBlock ∧ some k_ ≠ (v279 : Value).ownBlock ∧ k_ ≠ gb268)) (Kd.R_types (Kd.R_apart' (Kd.R_apart' (HO283.out) (Kd.R_typed HO271.out) (by decide)) (Kd.N_typed HO280.out) (by decide)) BK268.out (by decide)) (fun k_ hk => ⟨hk.1.1.1.1, ⟨hk.1.1.2, ⟨hk.1.2, hk.2⟩⟩⟩))))) (Reps.none _ _))); intro v285 w15 ho16 hb hg_ hnew_; clear hg_ hnew_; (first | rw [← Ny284.out] at ho16 | (simp only [Int.reduceToNat] at ho16; rw [← Ny284.out] at ho16)); have n0_ := Aside0.mk (Kd.R_below (rr HO271.out) hb); have n1_ := Aside0.mk (Kd.N_elder' (by (with_reducible repeat (first | apply Kd.N_alloc | apply Kd.N_drewN | apply Kd.N_drew)); exact HO280.out) (Kd.N_base ho16) hb); have n2_ := Aside0.mk (Kd.N_lower ho16 (below_size bel)); have n3_ := Aside0.mk (bkb BK268.out hb); have n4_ := Aside0.mk (below_step bel hb); clear HO271; clear HO280; clear BK268; clear HB; clear HO283; have HO271 := n0_; have HO280 := n1_; have HO286 := n2_; have BK268 := n3_; have HB := n4_; clear n0_ n1_ n2_ n3_ n4_; clear hb ho16; obtain ⟨Ao17, co17, eo17⟩ := Kd.N_slice HO286.out; subst eo17) | ((with_reducible refine gate_dst (N := 7) rfl ?_); refine Kd.N_lit (Kd.slice 61 (Kd.slice 72 (Kd.int .i32))) _ 62 ?hg (N' := 7) ?hd (xs := ([y284] : List (List (List Int)))) (inner := [.slice Ao17 y284.length co17]) (ok := (fun k_ => (w.heap.size ≤ k_) ∧ some k_ ≠ (v270 : Value).ownBlock ∧ some k_ ≠ (v279 : Value).ownBlock ∧ k_ ≠ gb268)) (okp := (fun k_ => (w.heap.size ≤ k_) ∧ some k_ ≠ (v270 : Value).ownBlock ∧ some k_ ≠ (v279 : Value).ownBlock ∧ k_ ≠ gb268)) ?hr ?hp (fun _ hk => hk) ((show ∀ k_, w15.heap.size ≤ k_ → (fun k_ => (w.heap.size ≤ k_) ∧ some k_ ≠ (v270 : Value).ownBlock ∧ some k_ ≠ (v279 : Value).ownBlock ∧ k_ ≠ gb268) k_ from fun k_ hk => ⟨(Nat.le_trans (below_size bel) hk), Kd.fresh' (Kd.R_lt (rr HO271.out)) k_ hk, Kd.fresh' (Kd.N_lt (by (with_reducible repeat (first | apply Kd.N_alloc | apply Kd.N_drewN | apply Kd.N_drew)); exact HO280.out)) k_ hk, Kd.freshB (g := gb268) (o := .cells #[.slice none 0 0, .int .i64 0, .slice none 0 0, .slice none 0 0] 29 (0, 0)) (by (with_reducible repeat (first | refine blk_drewN ?_ _ | refine blk_drew ?_ | refine blk_alloc ?_ _)); exact BK268.out) k_ hk⟩) _ (Nat.le_refl _)) (Below.refl _ _) (Nat.le_refl _) (by simp) ?_; (case hd => rfl); (case hg => rfl); (case hr => first | (go_simp; done) | (go_simp; rfl)); (case hp => exact (Reps.one (show Kd.FK (Kd.slice 61 (Kd.slice 72 (Kd.int .i32))) _ _ y284 [.slice Ao17 y284.length co17] from (Kd.FK_slice_mk (Kd.N_reads' (Kd.N_mono (ok' := (fun k_ => (w.heap.size ≤ k_) ∧ some k_ ≠ (v270 : Value).ownBlock ∧ some k_ ≠ (v279 : Value).ownBlock ∧ k_ ≠ gb268)) (HO286.out) (fun k_ hk => ⟨hk.1, ⟨hk.2.1, ⟨hk.2.2.1, hk.2.2.2⟩⟩⟩))).2.1 (Kd.N_F (Kd.N_mono (ok' := (fun k_ => (w.heap.size ≤ k_) ∧ some k_ ≠ (v270 : Value).ownBlock ∧ some k_ ≠ (v279 : Value).ownBlock ∧ k_ ≠ gb268)) (HO286.out) (fun k_ hk => ⟨hk.1, ⟨hk.2.1, ⟨hk.2.2.1, hk.2.2.2⟩⟩⟩))))) (Reps.none _ _))); intro v288 w18 ho19 hb hg_ hnew_; clear hg_ hnew_; (first | rw [← Ny287.out] at ho19 | (simp only [Int.reduceToNat] at ho19; rw [← Ny287.out] at ho19)); have n0_ := Aside0.mk (Kd.R_below (rr HO271.out) hb); have n1_ := Aside0.mk (Kd.N_elder' (by (with_reducible repeat (first | apply Kd.N_alloc | apply Kd.N_drewN | apply Kd.N_drew)); exact HO280.out) (Kd.N_base ho19) hb); have n2_ := Aside0.mk (Kd.N_lower ho19 (below_size bel)); have n3_ := Aside0.mk (bkb BK268.out hb); have n4_ := Aside0.mk (below_step bel hb); clear HO271; clear HO280; clear BK268; clear HB; clear HO286; have HO271 := n0_; have HO280 := n1_; have HO289 := n2_; have BK268 := n3_; have HB := n4_; clear n0_ n1_ n2_ n3_ n4_; clear hb ho19; obtain ⟨Ao20, co20, eo20⟩ := Kd.N_slice HO289.out; subst eo20; obtain ⟨Ao21, co21, eo21⟩ := Kd.N_slice HO280.out; subst eo21; obtain ⟨Ao22, co22, eo22⟩ := Kd.R_slice HO271.out; subst eo22; obtain ⟨hcz23_0, hcz23_1, hcz23_2, hcz23_3, hfz23_0, hfz23_1, hfz23_2, hfz23_3⟩ := cq4 BK268.out))
 refine bodyPost_ret (results_cell_row rfl _ _ gb268 29 #[.slice Ao22 y269.length co22, .int .i64 0, .slice Ao21 y278.length co21, .slice Ao20 y287.length co20] (0, 0) _ rfl (bkp BK268.out) Try.underlying29 rfl (by kernel_rfl)) rfl ?_
 exact ⟨_, _, _, by first | rfl | (simp [errW_none, errW_some] <;> rfl) | (simp [*, errW_none, errW_some] <;> rfl), by (with_reducible repeat (first | apply Kd.R_alloc | apply Kd.R_drewN | apply Kd.R_drew)); exact Kd.R_mono (Kd.R_far (p := ⟨gb268, 3, none⟩) (Kd.R_far (p := ⟨gb268, 2, none⟩) (Kd.R_far (p := ⟨gb268, 1, none⟩) (Kd.R_far (p := ⟨gb268, 0, none⟩) (Kd.R_types HO271.out BK268.out (by decide)) (fun _ hk => hk.2) (.slice Ao22 y269.length co22)) (fun _ hk => hk.2) (.int .i64 0)) (fun _ hk => hk.2) (.slice Ao21 y278.length co21)) (fun _ hk => hk.2) (.slice Ao20 y287.length co20)) (fun _ hk => hk.1.1), by (with_reducible repeat (first | apply Kd.N_alloc | apply Kd.N_drewN | apply Kd.N_drew)); exact Kd.N_mono (Kd.N_far (p := ⟨gb268, 3, none⟩) (Kd.N_far (p := ⟨gb268, 2, none⟩) (Kd.N_far (p := ⟨gb268, 1, none⟩) (Kd.N_far (p := ⟨gb268, 0, none⟩) (Kd.N_mono HO280.out (fun k_ hk => (⟨hk, hk.1.1.1.2.2⟩ : _ ∧ k_ ≠ gb268))) (fun _ hk => hk.2) (.slice Ao22 y269.length co22)) (fun _ hk => hk.2) (.int .i64 0)) (fun _ hk => hk.2) (.slice Ao21 y278.length co21)) (fun _ hk => hk.2) (.slice Ao20 y287.length co20)) (fun _ hk => ⟨hk.1.1.1.1.1, ⟨hk.1.1.1.1.2.1, hk.1.2⟩⟩), by (with_reducible repeat (first | apply Kd.N_alloc | apply Kd.N_drewN | apply Kd.N_drew)); exact Kd.N_mono (Kd.N_far (p := ⟨gb268, 3, none⟩) (Kd.N_far (p := ⟨gb268, 2, none⟩) (Kd.N_far (p := ⟨gb268, 1, none⟩) (Kd.N_far (p := ⟨gb268, 0, none⟩) (Kd.N_mono HO289.out (fun k_ hk => (⟨hk, hk.2.2.2⟩ : _ ∧ k_ ≠ gb268))) (fun _ hk => hk.2) (.slice Ao22 y269.length co22)) (fun _ hk => hk.2) (.int .i64 0)) (fun _ hk => hk.2) (.slice Ao21 y278.length co21)) (fun _ hk => hk.2) (.slice Ao20 y287.length co20)) (fun _ hk => ⟨hk.1.1, ⟨hk.1.2.1, hk.1.2.2.1⟩⟩), by repeat (first | (with_reducible first | exact HB.out | apply below_alloc | apply pw_below_drewN | apply below_drew1 | refine below_set ?_ GE268.out) | exact HB.out)⟩

end Go.Proofs.Ytepbebelbcbciaa.Q
