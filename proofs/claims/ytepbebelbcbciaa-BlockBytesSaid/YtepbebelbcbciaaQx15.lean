/- Functions of the program as plain Lean functions, each with a proof that the program's call comes to what it says; and rows of statements over them. No condition but those that the theorems name. Written by a program of this session (myprint.py, over the kit's print with patches of its own). -/
import Derived.Test.YtepbebelbcbciaaQx0
import Derived.Test.YtepbebelbcbciaaQx6
import Derived.Test.YtepbebelbcbciaaQx14
import Derived.Test.YtepbebelbcbciaaZWords
namespace Go.Proofs.Ytepbebelbcbciaa.Q
open Go.RowKit Go.Proofs.YtepbebelbcbciaaW.PrintWords Go.Proofs.YtepbebelbcbciaaW.PrintLast Go.Proofs.YtepbebelbcbciaaW.PrintMore
attribute [local go_sem] max2_int min2_int max_two min_two max_three min_three max_four min_four   -- for this text's walks alone
set_option linter.unusedVariables false
set_option linter.unusedSimpArgs false

/-! ### tillerref11_Read: function 19 -/
mutual
def tillerref11_Read.j0 : Nat → ByteArray → Bool → Int → Int → Int → Int → Int → Option (List Int × Int × (List (List (List Int))) × (List (List (List Int))) × Int)
 | 0, _, _, _, _, _, _, _ => none
 | k + 1, x1, x24, x420000, x420001, x420002, x420003, x420004 => if x24 = true then (some (([] : List Int), 0, ([] : List (List (List Int))), ([] : List (List (List Int))), 11)) else (if 0 < (x1.size : Int) then (if 1 < (x1.size : Int) then (tillerref11_Read.l0 k x1 (wrap64 (bt x1 0)) 0 x420000 x420001 x420002 x420003 x420004 ([] : List Int) (wrap64 (bt x1 1))) else (none)) else (none))
def tillerref11_Read.l0 : Nat → ByteArray → Int → Int → Int → Int → Int → Int → Int → List Int → Int → Option (List Int × Int × (List (List (List Int))) × (List (List (List Int))) × Int)
 | 0, _, _, _, _, _, _, _, _, _, _ => none
 | k + 1, x1, x6, x8, x420000, x420001, x420002, x420003, x420004, x422000, x422001 => if x8 < x6 then (if 0 ≤ (wrap64 (2 + x8)) then (if (wrap64 (2 + x8)) < (x1.size : Int) then (if x422000.length < 17592186044416 then (tillerref11_Read.l0 k x1 x6 (wrap64 (x8 + 1)) x420000 x420001 x420002 x420003 x420004 (x422000 ++ [wrap64 (bt x1 (wrap64 (2 + x8)))]) x422001) else (none)) else (none)) else (none)) else (if 0 ≤ (wrap64 (2 + x6)) then (if (wrap64 (2 + x6)) ≤ (x1.size : Int) then (if (wrap64 (x6 - x422001)) < 0 then (tillerref11_Read.j2 k (x1.extract ((wrap64 (2 + x6)) : Int).toNat x1.size) 0 x420000 x420001 x420002 x420003 x420004 x422000 x422001) else (tillerref11_Read.j2 k (x1.extract ((wrap64 (2 + x6)) : Int).toNat x1.size) (wrap64 (x6 - x422001)) x420000 x420001 x420002 x420003 x420004 x422000 x422001)) else (none)) else (none))
def tillerref11_Read.j2 : Nat → ByteArray → Int → Int → Int → Int → Int → Int → List Int → Int → Option (List Int × Int × (List (List (List Int))) × (List (List (List Int))) × Int)
 | 0, _, _, _, _, _, _, _, _, _ => none
 | k + 1, x1, x9, x420000, x420001, x420002, x420003, x420004, x422000, x422001 => if x420004 > 4 then (tillerref11_Read.j3 k x1 x9 true x420000 x420001 x420002 x420003 x420004 x422000 x422001) else (tillerref11_Read.j3 k x1 x9 (decide (x420001 > 32)) x420000 x420001 x420002 x420003 x420004 x422000 x422001)
def tillerref11_Read.j3 : Nat → ByteArray → Int → Bool → Int → Int → Int → Int → Int → List Int → Int → Option (List Int × Int × (List (List (List Int))) × (List (List (List Int))) × Int)
 | 0, _, _, _, _, _, _, _, _, _, _ => none
 | k + 1, x1, x9, x65, x420000, x420001, x420002, x420003, x420004, x422000, x422001 => if x65 = true then (some (([] : List Int), 0, ([] : List (List (List Int))), ([] : List (List (List Int))), 6)) else (if (x1.size : Int) = (wrap64 ((wrap64 ((wrap64 (8 * x9)) * (mx x420004 0))) * (mx x420001 0))) then ((tillerref11_lists.f k x1 (mx x420004 0) x9 (mx x420001 0)).bind fun bt425 => ((tillerref11_lists.f k bt425.2 (mx x420004 0) x9 (mx x420001 0)).bind fun bt429 => ((tillerref11_Check.f k x420000 x420001 x420002 x420003 x420004 x422000 x422001 bt425.1 bt429.1).bind fun t433 => (if t433 = 0 then (some (x422000, x422001, bt425.1, bt429.1, 0)) else (some (([] : List Int), 0, ([] : List (List (List Int))), ([] : List (List (List Int))), t433)))))) else (some (([] : List Int), 0, ([] : List (List (List Int))), ([] : List (List (List Int))), 6)))
end
def tillerref11_Read.f (k : Nat) (a0_0 : Int) (a0_1 : Int) (a0_2 : Int) (a0_3 : Int) (a0_4 : Int) (a1 : ByteArray) : Option (List Int × Int × (List (List (List Int))) × (List (List (List Int))) × Int) := if (a1.size : Int) < 2 then (tillerref11_Read.j0 k a1 true a0_0 a0_1 a0_2 a0_3 a0_4) else (if 0 < (a1.size : Int) then (tillerref11_Read.j0 k a1 (decide ((wrap64 ((a1.size : Int) - 2)) < (wrap64 (bt a1 0)))) a0_0 a0_1 a0_2 a0_3 a0_4) else (none))
theorem tillerref11_Read.mono_l : ∀ k, (∀ y0 y1 y2 y3 y4 y5 y6, LeO (tillerref11_Read.j0 k y0 y1 y2 y3 y4 y5 y6) (tillerref11_Read.j0 (k + 1) y0 y1 y2 y3 y4 y5 y6)) ∧ (∀ y0 y1 y2 y3 y4 y5 y6 y7 y8 y9, LeO (tillerref11_Read.l0 k y0 y1 y2 y3 y4 y5 y6 y7 y8 y9) (tillerref11_Read.l0 (k + 1) y0 y1 y2 y3 y4 y5 y6 y7 y8 y9)) ∧ (∀ y0 y1 y2 y3 y4 y5 y6 y7 y8, LeO (tillerref11_Read.j2 k y0 y1 y2 y3 y4 y5 y6 y7 y8) (tillerref11_Read.j2 (k + 1) y0 y1 y2 y3 y4 y5 y6 y7 y8)) ∧ (∀ y0 y1 y2 y3 y4 y5 y6 y7 y8 y9, LeO (tillerref11_Read.j3 k y0 y1 y2 y3 y4 y5 y6 y7 y8 y9) (tillerref11_Read.j3 (k + 1) y0 y1 y2 y3 y4 y5 y6 y7 y8 y9))
 | 0 => ⟨fun _ _ _ _ _ _ _ r h => by simp [tillerref11_Read.j0] at h, fun _ _ _ _ _ _ _ _ _ _ r h => by simp [tillerref11_Read.l0] at h, fun _ _ _ _ _ _ _ _ _ r h => by simp [tillerref11_Read.j2] at h, fun _ _ _ _ _ _ _ _ _ _ r h => by simp [tillerref11_Read.j3] at h⟩
 | k + 1 => by
  obtain ⟨ih0, ih1, ih2, ih3⟩ := tillerref11_Read.mono_l k
  refine ⟨?_, ?_, ?_, ?_⟩
  ·intro y0 y1 y2 y3 y4 y5 y6
   unfold tillerref11_Read.j0
   repeat' first
   | (with_reducible exact ih0 _ _ _ _ _ _ _)
   | (with_reducible exact ih1 _ _ _ _ _ _ _ _ _ _)
   | (with_reducible exact ih2 _ _ _ _ _ _ _ _ _)
   | (with_reducible exact ih3 _ _ _ _ _ _ _ _ _ _)
   | (with_reducible exact tillerref11_Check.mono _ _ _ _ _ _ _ _ _ _)
   | (with_reducible exact tillerref11_lists.mono _ _ _ _ _)
   | (with_reducible exact LeO.refl _)
   | (with_reducible exact LeO.none _)
   | (with_reducible refine LeO.ite ?_ ?_)
   | (with_reducible refine LeO.bind ?_ (fun _ => ?_))
   | exact ih0 _ _ _ _ _ _ _
   | exact ih1 _ _ _ _ _ _ _ _ _ _
   | exact ih2 _ _ _ _ _ _ _ _ _
   | exact ih3 _ _ _ _ _ _ _ _ _ _
   | exact tillerref11_Check.mono _ _ _ _ _ _ _ _ _ _
   | exact tillerref11_lists.mono _ _ _ _ _
   | exact LeO.none _
   | refine LeO.ite ?_ ?_
   | refine LeO.bind ?_ (fun _ => ?_)
  ·intro y0 y1 y2 y3 y4 y5 y6 y7 y8 y9
   unfold tillerref11_Read.l0
   repeat' first
   | (with_reducible exact ih0 _ _ _ _ _ _ _)
   | (with_reducible exact ih1 _ _ _ _ _ _ _ _ _ _)
   | (with_reducible exact ih2 _ _ _ _ _ _ _ _ _)
   | (with_reducible exact ih3 _ _ _ _ _ _ _ _ _ _)
   | (with_reducible exact tillerref11_Check.mono _ _ _ _ _ _ _ _ _ _)
   | (with_reducible exact tillerref11_lists.mono _ _ _ _ _)
   | (with_reducible exact LeO.refl _)
   | (with_reducible exact LeO.none _)
   | (with_reducible refine LeO.ite ?_ ?_)
   | (with_reducible refine LeO.bind ?_ (fun _ => ?_))
   | exact ih0 _ _ _ _ _ _ _
   | exact ih1 _ _ _ _ _ _ _ _ _ _
   | exact ih2 _ _ _ _ _ _ _ _ _
   | exact ih3 _ _ _ _ _ _ _ _ _ _
   | exact tillerref11_Check.mono _ _ _ _ _ _ _ _ _ _
   | exact tillerref11_lists.mono _ _ _ _ _
   | exact LeO.none _
   | refine LeO.ite ?_ ?_
   | refine LeO.bind ?_ (fun _ => ?_)
  ·intro y0 y1 y2 y3 y4 y5 y6 y7 y8
   unfold tillerref11_Read.j2
   repeat' first
   | (with_reducible exact ih0 _ _ _ _ _ _ _)
   | (with_reducible exact ih1 _ _ _ _ _ _ _ _ _ _)
   | (with_reducible exact ih2 _ _ _ _ _ _ _ _ _)
   | (with_reducible exact ih3 _ _ _ _ _ _ _ _ _ _)
   | (with_reducible exact tillerref11_Check.mono _ _ _ _ _ _ _ _ _ _)
   | (with_reducible exact tillerref11_lists.mono _ _ _ _ _)
   | (with_reducible exact LeO.refl _)
   | (with_reducible exact LeO.none _)
   | (with_reducible refine LeO.ite ?_ ?_)
   | (with_reducible refine LeO.bind ?_ (fun _ => ?_))
   | exact ih0 _ _ _ _ _ _ _
   | exact ih1 _ _ _ _ _ _ _ _ _ _
   | exact ih2 _ _ _ _ _ _ _ _ _
   | exact ih3 _ _ _ _ _ _ _ _ _ _
   | exact tillerref11_Check.mono _ _ _ _ _ _ _ _ _ _
   | exact tillerref11_lists.mono _ _ _ _ _
   | exact LeO.none _
   | refine LeO.ite ?_ ?_
   | refine LeO.bind ?_ (fun _ => ?_)
  ·intro y0 y1 y2 y3 y4 y5 y6 y7 y8 y9
   unfold tillerref11_Read.j3
   repeat' first
   | (with_reducible exact ih0 _ _ _ _ _ _ _)
   | (with_reducible exact ih1 _ _ _ _ _ _ _ _ _ _)
   | (with_reducible exact ih2 _ _ _ _ _ _ _ _ _)
   | (with_reducible exact ih3 _ _ _ _ _ _ _ _ _ _)
   | (with_reducible exact tillerref11_Check.mono _ _ _ _ _ _ _ _ _ _)
   | (with_reducible exact tillerref11_lists.mono _ _ _ _ _)
   | (with_reducible exact LeO.refl _)
   | (with_reducible exact LeO.none _)
   | (with_reducible refine LeO.ite ?_ ?_)
   | (with_reducible refine LeO.bind ?_ (fun _ => ?_))
   | exact ih0 _ _ _ _ _ _ _
   | exact ih1 _ _ _ _ _ _ _ _ _ _
   | exact ih2 _ _ _ _ _ _ _ _ _
   | exact ih3 _ _ _ _ _ _ _ _ _ _
   | exact tillerref11_Check.mono _ _ _ _ _ _ _ _ _ _
   | exact tillerref11_lists.mono _ _ _ _ _
   | exact LeO.none _
   | refine LeO.ite ?_ ?_
   | refine LeO.bind ?_ (fun _ => ?_)
theorem tillerref11_Read.mono : ∀ a0 a1 a2 a3 a4 a5 k, LeO (tillerref11_Read.f k a0 a1 a2 a3 a4 a5) (tillerref11_Read.f (k + 1) a0 a1 a2 a3 a4 a5) := by
 intro a0 a1 a2 a3 a4 a5 k
 obtain ⟨ih0, ih1, ih2, ih3⟩ := tillerref11_Read.mono_l k
 unfold tillerref11_Read.f
 repeat' first
   | (with_reducible exact ih0 _ _ _ _ _ _ _)
   | (with_reducible exact ih1 _ _ _ _ _ _ _ _ _ _)
   | (with_reducible exact ih2 _ _ _ _ _ _ _ _ _)
   | (with_reducible exact ih3 _ _ _ _ _ _ _ _ _ _)
   | (with_reducible exact tillerref11_Check.mono _ _ _ _ _ _ _ _ _ _)
   | (with_reducible exact tillerref11_lists.mono _ _ _ _ _)
   | (with_reducible exact LeO.refl _)
   | (with_reducible exact LeO.none _)
   | (with_reducible refine LeO.ite ?_ ?_)
   | (with_reducible refine LeO.bind ?_ (fun _ => ?_))
   | exact ih0 _ _ _ _ _ _ _
   | exact ih1 _ _ _ _ _ _ _ _ _ _
   | exact ih2 _ _ _ _ _ _ _ _ _
   | exact ih3 _ _ _ _ _ _ _ _ _ _
   | exact tillerref11_Check.mono _ _ _ _ _ _ _ _ _ _
   | exact tillerref11_lists.mono _ _ _ _ _
   | exact LeO.none _
   | refine LeO.ite ?_ ?_
   | refine LeO.bind ?_ (fun _ => ?_)
def tillerref11_Read.T8 : Bool × List (List Nat × List Nat) := (true, [([], []), ([0], [0]), ([], []), ([], []), ([3], [3]), ([2, 4], [2, 4]), ([5], [5]), ([6], [6]), ([1, 7], [1, 7]), ([0, 1, 2, 3, 4, 5, 6, 7, 8], []), ([9, 8, 8, 0, 1, 2, 3, 4, 5, 6, 7, 8], [8, 9])])
def tillerref11_Read.B8 : List Nat := [0, 1, 0, 0, 8, 28, 60, 124, 255, 511, 1023]
theorem tillerref11_Read.tab8 : rtab .any (opsOf Try.f19 8) = tillerref11_Read.T8 := by kernel_rfl
theorem tillerref11_Read.bits8 : waitsOk tillerref11_Read.T8.2 tillerref11_Read.B8 = true := by kernel_rfl
def tillerref11_Read.T15 : Bool × List (List Nat × List Nat) := (true, [([], []), ([0], [0]), ([1], [1]), ([], []), ([3], [3]), ([4], [4]), ([2, 0, 1, 2], [2]), ([5, 6, 0, 1, 2, 3, 4, 5, 6], [5])])
def tillerref11_Read.B15 : List Nat := [0, 1, 3, 0, 8, 24, 7, 127]
theorem tillerref11_Read.tab15 : rtab .any (opsOf Try.f19 15) = tillerref11_Read.T15 := by kernel_rfl
theorem tillerref11_Read.bits15 : waitsOk tillerref11_Read.T15.2 tillerref11_Read.B15 = true := by kernel_rfl
set_option maxHeartbeats 8000000 in
set_option maxRecDepth 100000 in
theorem tillerref11_Read.calls (k : Nat) (a0_0 : Int) (a0_1 : Int) (a0_2 : Int) (a0_3 : Int) (a0_4 : Int) (a1 : ByteArray) (r1 : List Int) (r2 : Int) (r3 : List (List (List Int))) (r4 : List (List (List Int))) (r5 : Int) (w : World) (h : tillerref11_Read.f k a0_0 a0_1 a0_2 a0_3 a0_4 a1 = some (r1, r2, r3, r4, r5)) :
  Calls Try.prog 19 #[.agg #[.int .i64 a0_0, .int .i64 a0_1, .int .i64 a0_2, .int .i64 a0_3, .int .i64 a0_4], .string a1] w fun e w' => ∃ v0_ v2_ v3_ : Value, e = .returned (.tuple #[.agg #[v0_, .int .i64 r2, v2_, v3_], .int .i64 r5]) ∧ Kd.R (Kd.int .i64) 3 w' w.heap.size (fun _ => True) v0_ r1 ∧ Kd.R (Kd.slice 61 (Kd.slice 72 (Kd.int .i32))) 62 w' w.heap.size (fun k_ => some k_ ≠ (v3_ : Value).ownBlock) v2_ r3 ∧ Kd.R (Kd.slice 61 (Kd.slice 72 (Kd.int .i32))) 62 w' w.heap.size (fun k_ => some k_ ≠ (v2_ : Value).ownBlock) v3_ r4 ∧ Below w.heap.size w w' := by
 have hu23 := Try.underlying23
 have hu31 := Try.underlying31
 have HB := Aside0.mk (Below.refl w.heap.size w)
 have H : (if (a1.size : Int) < 2 then (tillerref11_Read.j0 k a1 true a0_0 a0_1 a0_2 a0_3 a0_4) else (if 0 < (a1.size : Int) then (tillerref11_Read.j0 k a1 (decide ((wrap64 ((a1.size : Int) - 2)) < (wrap64 (bt a1 0)))) a0_0 a0_1 a0_2 a0_3 a0_4) else (none))) = some (r1, r2, r3, r4, r5) := h
 clear h
 have HC3 := Aside0.mk H
 clear H
 go_enter Try.func19, Try.ntmps19
 go_upto_region 1 with (first | ((with_reducible refine gate_dst (N := 2) rfl ?_); (try (refine gate_guard (by rfl) ?_; dsimp only)); refine bxe (N := 2) (cs := #[.int .i64 a0_0, .int .i64 a0_1, .int .i64 a0_2, .int .i64 a0_3, .int .i64 a0_4]) (t := 23) ?_; intro gb419 hg w4 hbox hb; have n0_ := Aside0.mk (below_step bel hb); have n1_ := Aside0.mk (hbox); have n2_ := Aside0.mk ((bsz hg : w.heap.size ≤ gb419)); have n3_ := Aside0.mk ((bsz hg : w.heap.size ≤ gb419)); clear HB; have HB := n0_; have BK419 := n1_; have GW419 := n2_; have GE419 := n3_; clear n0_ n1_ n2_ n3_; clear hb hbox hg) | ((with_reducible refine gate_dst (N := 4) rfl ?_); (try (refine gate_guard (by rfl) ?_; dsimp only)); refine bxe (N := 4) (cs := #[.slice none 0 0, .int .i64 0, .slice none 0 0, .slice none 0 0]) (t := 31) ?_; intro gb420 hg w5 hbox hb; have n0_ := Aside0.mk (bkb BK419.out hb); have n1_ := Aside0.mk (below_step bel hb); have n2_ := Aside0.mk (hbox); have n3_ := Aside0.mk ((bsz hg : w.heap.size ≤ gb420)); have n4_ := Aside0.mk ((bsz hg : w.heap.size ≤ gb420)); have n5_ := Aside0.mk ((nel BK419.out hg : gb419 ≠ gb420)); have n6_ := Aside0.mk ((neg_ BK419.out hg : gb420 ≠ gb419)); clear BK419; clear HB; have BK419 := n0_; have HB := n1_; have BK420 := n2_; have GW420 := n3_; have GE420 := n4_; have NB419_420 := n5_; have NB420_419 := n6_; clear n0_ n1_ n2_ n3_ n4_ n5_ n6_; clear hb hbox hg))
 (try simp only [Act.put, List.setIfInBounds_toArray, List.set_cons_zero, List.set_cons_succ])
 go_cut [24] (fun v24 wc => ∃ (kq : Nat) (x24_2 : Bool), v24 = .bool x24_2 ∧ Aside0 (tillerref11_Read.j0 kq a1 x24_2 a0_0 a0_1 a0_2 a0_3 a0_4 = some (r1, r2, r3, r4, r5)) ∧ Aside0 (kq ≤ k) ∧ Aside0 (wc.heap[gb419]? = some (.cells #[.int .i64 a0_0, .int .i64 a0_1, .int .i64 a0_2, .int .i64 a0_3, .int .i64 a0_4] 23 (0, 0))) ∧ Aside0 (wc.heap[gb420]? = some (.cells #[(.slice none 0 0), .int .i64 0, (.slice none 0 0), (.slice none 0 0)] 31 (0, 0))) ∧ Aside0 (Below w.heap.size w wc))
 case first =>
  have H := HC3.out
  clear HC3
  by_cases c6 : (a1.size : Int) < 2
  ·rw [if_pos c6] at H
   have c6b0 : decide ((a1.size : Int) < 2) = true := decide_eq_true c6
   have c6b1 : decide (a1.size < 2) = true := decide_eq_true (by omega)
   clear c6
   (first | rw [c6b0] | (simp only [i64_w, i32_w]; rw [c6b0]) | skip)
   have H' := Aside0.mk H
   clear H
   go_wp2
   go_meet
   case rel => exact ⟨_, (true), rs, H', ⟨by first | omega | exact Nat.le_refl _⟩, ⟨by (with_reducible repeat (first | refine blk_drewN ?_ _ | refine blk_drew ?_ | refine blk_alloc ?_ _)); exact BK419.out⟩, ⟨by (with_reducible repeat (first | refine blk_drewN ?_ _ | refine blk_drew ?_ | refine blk_alloc ?_ _)); exact BK420.out⟩, ⟨by repeat (first | (with_reducible first | exact HB.out | apply below_alloc | apply pw_below_drewN | apply below_drew1 | refine below_set ?_ GE419.out | refine below_set ?_ GE420.out) | exact HB.out)⟩⟩
  ·rw [if_neg c6] at H
   have c6b0 : decide ((a1.size : Int) < 2) = false := decide_eq_false c6
   have c6b1 : decide (a1.size < 2) = false := decide_eq_false (by omega)
   clear c6
   (first | rw [c6b0] | (simp only [i64_w, i32_w]; rw [c6b0]) | skip)
   by_cases c7 : 0 < (a1.size : Int)
   ·rw [if_pos c7] at H
    have c7b0 : decide (0 < (a1.size : Int)) = true := decide_eq_true c7
    have c7b1 : decide (0 < a1.size) = true := decide_eq_true (by omega)
    clear c7
    have H' := Aside0.mk H
    clear H
    have p8 : 0 ≤ (0 : Int) := (by omega)
    have q8 : 0 < a1.size := (by have : (0 : Int) < (a1.size : Int) := of_decide_eq_true asm; omega)
    have hx8 : ∀ h : 0 < a1.size, ((a1[0]'h).toNat : Int) = bt a1 0 := bt_at a1 0
    clear p8
    have qi8 : (0 < (a1.size : Int)) = True := eq_true (of_decide_eq_true asm)
    replace q8 := eq_true q8
    go_wp2
    go_meet
    case rel => exact ⟨_, (decide ((wrap64 ((a1.size : Int) - 2)) < (wrap64 (bt a1 0)))), rs, H', ⟨by first | omega | exact Nat.le_refl _⟩, ⟨by (with_reducible repeat (first | refine blk_drewN ?_ _ | refine blk_drew ?_ | refine blk_alloc ?_ _)); exact BK419.out⟩, ⟨by (with_reducible repeat (first | refine blk_drewN ?_ _ | refine blk_drew ?_ | refine blk_alloc ?_ _)); exact BK420.out⟩, ⟨by repeat (first | (with_reducible first | exact HB.out | apply below_alloc | apply pw_below_drewN | apply below_drew1 | refine below_set ?_ GE419.out | refine below_set ?_ GE420.out) | exact HB.out)⟩⟩
   ·rw [if_neg c7] at H
    exact absurd H (by simp)
 case rest =>
  clear HC3
  try clear c1
  try clear p2
  try clear c6
  try clear c6b0
  try clear c6b1
  try clear p6
  try clear c7
  try clear c7b0
  try clear c7b1
  try clear p8
  try clear q8
  try clear hx8
  try clear qi8
  try clear p8
  try clear q8
  obtain ⟨kq, x24_2, rfl, HA, HJ2, BK419, BK420, HB⟩ := hcut
  cases kq with
  | zero => exact absurd HA.out (by simp [tillerref11_Read.j0])
  | succ kj2 =>
   have H := HA.out
   clear HA
   simp only [tillerref11_Read.j0] at H
   by_cases c9 : x24_2 = true
   ·subst c9
    have H1 : (some (([] : List Int), 0, ([] : List (List (List Int))), ([] : List (List (List Int))), 11)) = some (r1, r2, r3, r4, r5) := by rw [if_pos rfl] at H; exact H
    clear H
    have H := H1
    clear H1
    simp only [Option.some.injEq, Prod.mk.injEq] at H
    obtain ⟨rfl, rfl, rfl, rfl, rfl⟩ := H
    have hnb10 := NB420_419.out
    have hnc10 := NB419_420.out
    obtain ⟨hcz11_0, hcz11_1, hcz11_2, hcz11_3, hfz11_0, hfz11_1, hfz11_2, hfz11_3⟩ := cq4 BK420.out
    go_wp2
    refine bodyPost_ret (results_ct rfl _ _ gb420 31 #[.slice none 0 0, .int .i64 0, .slice none 0 0, .slice none 0 0] (0, 0) _ rfl (bkp BK420.out) Try.underlying31 rfl (by kernel_rfl)) rfl ?_
    exact ⟨_, _, _, by first | rfl | (simp [errW_none, errW_some] <;> rfl) | (simp [*, errW_none, errW_some] <;> rfl), by first | exact Kd.R_nil _ _ _ _ _ | exact Kd.N_nil _ _ _ _ _ | exact Kd.V_nil _ _ _ _ _ | exact Kd.Q_nil _ _ _ _ _ | exact Kd.S_nil _ _ _ _ _, by first | exact Kd.R_nil _ _ _ _ _ | exact Kd.N_nil _ _ _ _ _ | exact Kd.V_nil _ _ _ _ _ | exact Kd.Q_nil _ _ _ _ _ | exact Kd.S_nil _ _ _ _ _, by first | exact Kd.R_nil _ _ _ _ _ | exact Kd.N_nil _ _ _ _ _ | exact Kd.V_nil _ _ _ _ _ | exact Kd.Q_nil _ _ _ _ _ | exact Kd.S_nil _ _ _ _ _, by repeat (first | (with_reducible first | exact HB.out | apply below_alloc | apply pw_below_drewN | apply below_drew1 | refine below_set ?_ GE419.out | refine below_set ?_ GE420.out) | exact HB.out)⟩
   ·replace c9 := Bool.eq_false_iff.mpr c9
    subst c9
    have H1 : (if 0 < (a1.size : Int) then (if 1 < (a1.size : Int) then (tillerref11_Read.l0 kj2 a1 (wrap64 (bt a1 0)) 0 a0_0 a0_1 a0_2 a0_3 a0_4 ([] : List Int) (wrap64 (bt a1 1))) else (none)) else (none)) = some (r1, r2, r3, r4, r5) := by rw [if_neg (show ¬ (false = true) by decide)] at H; exact H
    clear H
    have H := H1
    clear H1
    by_cases c12 : 0 < (a1.size : Int)
    ·rw [if_pos c12] at H
     have c12b0 : decide (0 < (a1.size : Int)) = true := decide_eq_true c12
     have c12b1 : decide (0 < a1.size) = true := decide_eq_true (by omega)
     clear c12
     by_cases c14 : 1 < (a1.size : Int)
     ·rw [if_pos c14] at H
      have c14b0 : decide (1 < (a1.size : Int)) = true := decide_eq_true c14
      have c14b1 : decide (1 < a1.size) = true := decide_eq_true (by omega)
      clear c14
      have H' := Aside0.mk H
      clear H
      have p13 : 0 ≤ (0 : Int) := (by omega)
      have q13 : 0 < a1.size := (by have : (0 : Int) < (a1.size : Int) := of_decide_eq_true asm; omega)
      have hx13 : ∀ h : 0 < a1.size, ((a1[0]'h).toNat : Int) = bt a1 0 := bt_at a1 0
      clear p13
      have qi13 : (0 < (a1.size : Int)) = True := eq_true (of_decide_eq_true asm)
      replace q13 := eq_true q13
      have p15 : 0 ≤ (1 : Int) := (by omega)
      have q15 : 1 < a1.size := (by have : (1 : Int) < (a1.size : Int) := of_decide_eq_true asm; omega)
      have hx15 : ∀ h : 1 < a1.size, ((a1[1]'h).toNat : Int) = bt a1 1 := bt_at a1 1
      clear p15
      have qi15 : (1 < (a1.size : Int)) = True := eq_true (of_decide_eq_true asm)
      replace q15 := eq_true q15
      go_wp2_with (first | ((with_reducible refine gate_dst (N := 7) rfl ?_); (try (refine gate_guard (by rfl) ?_; dsimp only)); refine bxe (N := 7) (cs := #[.slice none 0 0, .int .i64 0, .slice none 0 0, .slice none 0 0]) (t := 31) ?_; intro gb421 hg w16 hbox hb; have n0_ := Aside0.mk (bkb BK419.out hb); have n1_ := Aside0.mk (bkb BK420.out hb); have n2_ := Aside0.mk (below_step bel hb); have n3_ := Aside0.mk (hbox); have n4_ := Aside0.mk ((bsz hg : w.heap.size ≤ gb421)); have n5_ := Aside0.mk ((bsz hg : w.heap.size ≤ gb421)); have n6_ := Aside0.mk ((nel BK419.out hg : gb419 ≠ gb421)); have n7_ := Aside0.mk ((neg_ BK419.out hg : gb421 ≠ gb419)); have n8_ := Aside0.mk ((nel BK420.out hg : gb420 ≠ gb421)); have n9_ := Aside0.mk ((neg_ BK420.out hg : gb421 ≠ gb420)); clear BK419; clear BK420; clear HB; have BK419 := n0_; have BK420 := n1_; have HB := n2_; have BK421 := n3_; have GW421 := n4_; have GE421 := n5_; have NB419_421 := n6_; have NB421_419 := n7_; have NB420_421 := n8_; have NB421_420 := n9_; clear n0_ n1_ n2_ n3_ n4_ n5_ n6_ n7_ n8_ n9_; clear hb hbox hg; have hnb17 := NB421_419.out; have hnc17 := NB419_421.out; have hnb18 := NB421_420.out; have hnc18 := NB420_421.out; obtain ⟨hcz19_0, hcz19_1, hcz19_2, hcz19_3, hfz19_0, hfz19_1, hfz19_2, hfz19_3⟩ := cq4 BK421.out))
      go_loopg [8] kj2 (fun kq v8 w' => ∃ (x8_2 : Int) (x422000_2 : List Int) (u422000 : Value), v8 = .int .i64 x8_2 ∧ Aside0 (tillerref11_Read.l0 kq a1 (wrap64 (bt a1 0)) x8_2 a0_0 a0_1 a0_2 a0_3 a0_4 x422000_2 (wrap64 (bt a1 1)) = some (r1, r2, r3, r4, r5)) ∧ Aside0 (kq ≤ kj2) ∧ Aside0 (Kd.R (Kd.int .i64) 3 w' w.heap.size (fun _ => True) u422000 x422000_2) ∧ Aside0 (w'.heap[gb419]? = some (.cells #[.int .i64 a0_0, .int .i64 a0_1, .int .i64 a0_2, .int .i64 a0_3, .int .i64 a0_4] 23 (0, 0))) ∧ Aside0 (w'.heap[gb420]? = some (.cells #[(.slice none 0 0), .int .i64 0, (.slice none 0 0), (.slice none 0 0)] 31 (0, 0))) ∧ Aside0 (w'.heap[gb421]? = some (.cells #[u422000, .int .i64 (wrap64 (bt a1 1)), (.slice none 0 0), (.slice none 0 0)] 31 (0, 0))) ∧ Aside0 (Below w.heap.size w w'))
      case atStart => exact ⟨(0), (([] : List Int)), (.slice none 0 0), rs, H', ⟨Nat.le_refl _⟩, ⟨by first | exact Kd.R_nil _ _ _ _ _ | exact Kd.N_nil _ _ _ _ _ | exact Kd.V_nil _ _ _ _ _ | exact Kd.Q_nil _ _ _ _ _ | exact Kd.S_nil _ _ _ _ _⟩, ⟨by (with_reducible repeat (first | refine blk_drewN ?_ _ | refine blk_drew ?_ | refine blk_alloc ?_ _)); refine blk_far ?_ NB419_421.out _; (with_reducible repeat (first | refine blk_drewN ?_ _ | refine blk_drew ?_ | refine blk_alloc ?_ _)); refine blk_far ?_ NB419_421.out _; (with_reducible repeat (first | refine blk_drewN ?_ _ | refine blk_drew ?_ | refine blk_alloc ?_ _)); refine blk_far ?_ NB419_421.out _; (with_reducible repeat (first | refine blk_drewN ?_ _ | refine blk_drew ?_ | refine blk_alloc ?_ _)); refine blk_far ?_ NB419_421.out _; (with_reducible repeat (first | refine blk_drewN ?_ _ | refine blk_drew ?_ | refine blk_alloc ?_ _)); exact BK419.out⟩, ⟨by (with_reducible repeat (first | refine blk_drewN ?_ _ | refine blk_drew ?_ | refine blk_alloc ?_ _)); refine blk_far ?_ NB420_421.out _; (with_reducible repeat (first | refine blk_drewN ?_ _ | refine blk_drew ?_ | refine blk_alloc ?_ _)); refine blk_far ?_ NB420_421.out _; (with_reducible repeat (first | refine blk_drewN ?_ _ | refine blk_drew ?_ | refine blk_alloc ?_ _)); refine blk_far ?_ NB420_421.out _; (with_reducible repeat (first | refine blk_drewN ?_ _ | refine blk_drew ?_ | refine blk_alloc ?_ _)); refine blk_far ?_ NB420_421.out _; (with_reducible repeat (first | refine blk_drewN ?_ _ | refine blk_drew ?_ | refine blk_alloc ?_ _)); exact BK420.out⟩, ⟨by (with_reducible repeat (first | refine blk_drewN ?_ _ | refine blk_drew ?_ | refine blk_alloc ?_ _)); refine blk_put (cs := #[.slice none 0 0, .int .i64 (wrap64 (bt a1 1)), .slice none 0 0, .slice none 0 0]) ?_ 3 _ rfl; (with_reducible repeat (first | refine blk_drewN ?_ _ | refine blk_drew ?_ | refine blk_alloc ?_ _)); refine blk_put (cs := #[.slice none 0 0, .int .i64 (wrap64 (bt a1 1)), .slice none 0 0, .slice none 0 0]) ?_ 2 _ rfl; (with_reducible repeat (first | refine blk_drewN ?_ _ | refine blk_drew ?_ | refine blk_alloc ?_ _)); refine blk_put (cs := #[.slice none 0 0, .int .i64 0, .slice none 0 0, .slice none 0 0]) ?_ 1 _ rfl; (with_reducible repeat (first | refine blk_drewN ?_ _ | refine blk_drew ?_ | refine blk_alloc ?_ _)); refine blk_put (cs := #[.slice none 0 0, .int .i64 0, .slice none 0 0, .slice none 0 0]) ?_ 0 _ rfl; (with_reducible repeat (first | refine blk_drewN ?_ _ | refine blk_drew ?_ | refine blk_alloc ?_ _)); exact BK421.out⟩, ⟨by repeat (first | (with_reducible first | exact HB.out | apply below_alloc | apply pw_below_drewN | apply below_drew1 | refine below_set ?_ GE419.out | refine below_set ?_ GE420.out | refine below_set ?_ GE421.out) | exact HB.out)⟩⟩
      case round =>
       clear H'
       try clear c1
       try clear p1
       try clear q1
       try clear hx1
       try clear qi1
       try clear p2
       try clear c6
       try clear c6b0
       try clear c6b1
       try clear p6
       try clear c7
       try clear c7b0
       try clear c7b1
       try clear p8
       try clear q8
       try clear hx8
       try clear qi8
       try clear c9
       try clear c10
       try clear c12
       try clear c12b0
       try clear c12b1
       try clear p13
       try clear q13
       try clear hx13
       try clear qi13
       try clear c14
       try clear c14b0
       try clear c14b1
       try clear p15
       try clear q15
       try clear hx15
       try clear qi15
       try clear c17
       try clear c18
       try clear c19
       try clear hcz11_0
       try clear hcz11_1
       try clear hcz11_2
       try clear hcz11_3
       try clear hcz19_0
       try clear hcz19_1
       try clear hcz19_2
       try clear hcz19_3
       try clear hfz11_0
       try clear hfz11_1
       try clear hfz11_2
       try clear hfz11_3
       try clear hfz19_0
       try clear hfz19_1
       try clear hfz19_2
       try clear hfz19_3
       try clear p13
       try clear p15
       try clear p2
       try clear p6
       try clear p8
       try clear q13
       try clear q15
       try clear q8
       obtain ⟨x8_2, x422000_2, u422000, rfl, HA, HK2, HO_422000, BK419, BK420, BK421, HB⟩ := hrel
       cases gk with
       | zero => exact absurd HA.out (by simp [tillerref11_Read.l0])
       | succ k2 =>
        have H := HA.out
        clear HA
        simp only [tillerref11_Read.l0] at H
        by_cases c20 : x8_2 < (wrap64 (bt a1 0))
        ·rw [if_pos c20] at H
         have c20b0 : decide (x8_2 < (wrap64 (bt a1 0))) = true := decide_eq_true c20
         clear c20
         obtain ⟨ji21, hji21⟩ : ∃ j_ : Int, (wrap64 (2 + x8_2)) = j_ := ⟨_, rfl⟩
         replace H : (if 0 ≤ (ji21) then (if (ji21) < (a1.size : Int) then (if x422000_2.length < 17592186044416 then (tillerref11_Read.l0 k2 a1 (wrap64 (bt a1 0)) (wrap64 (x8_2 + 1)) a0_0 a0_1 a0_2 a0_3 a0_4 (x422000_2 ++ [wrap64 (bt a1 (ji21))]) (wrap64 (bt a1 1))) else (none)) else (none)) else (none)) = some (r1, r2, r3, r4, r5) := by first | (rw [hji21] at H; exact H) | (simp only [hji21] at H ⊢; exact H)
         have hji21w : (IntKind.i64.wrap (2 + x8_2)) = ji21 := (i64_w _).trans hji21
         by_cases c22 : 0 ≤ (ji21)
         ·rw [if_pos c22] at H
          have c22b0 : decide (0 ≤ (ji21)) = true := decide_eq_true c22
          clear c22
          by_cases c23 : (ji21) < (a1.size : Int)
          ·rw [if_pos c23] at H
           have c23b0 : decide ((ji21) < (a1.size : Int)) = true := decide_eq_true c23
           clear c23
           by_cases c25 : x422000_2.length < 17592186044416
           ·rw [if_pos c25] at H
            have LMc25 := Aside0.mk c25
            clear c25
            obtain ⟨y422, hy422⟩ : ∃ y_ : List Int, y_ = (x422000_2 ++ [wrap64 (bt a1 (ji21))]) := ⟨_, rfl⟩
            replace H : (tillerref11_Read.l0 k2 a1 (wrap64 (bt a1 0)) (wrap64 (x8_2 + 1)) a0_0 a0_1 a0_2 a0_3 a0_4 y422 (wrap64 (bt a1 1))) = some (r1, r2, r3, r4, r5) := by first | (rw [hy422]; with_reducible exact H) | (have H2_ := (Option.bind_some _ _).symm.trans H; rw [hy422]; with_reducible exact H2_) | (have H2_ := (Option.bind_some _ _).symm.trans H; with_reducible exact H2_) | with_reducible exact H | (rw [hy422]; exact H) | exact H
            have Ny422 := Aside0.mk hy422
            clear hy422
            have H' := Aside0.mk H
            clear H
            try go_wp2
            have n0_ := Aside0.mk (Kd.R_drew HO_422000.out)
            have n1_ := Aside0.mk (blk_drew BK419.out)
            have n2_ := Aside0.mk (blk_drew BK420.out)
            have n3_ := Aside0.mk (blk_drew BK421.out)
            have n4_ := Aside0.mk (below_drew1 HB.out)
            clear HO_422000
            clear BK419
            clear BK420
            clear BK421
            clear HB
            have HO_422000 := n0_
            have BK419 := n1_
            have BK420 := n2_
            have BK421 := n3_
            have HB := n4_
            clear n0_ n1_ n2_ n3_ n4_
            have p24 : 0 ≤ ((ji21) : Int) := of_decide_eq_true asm
            have q24 : (ji21) < (a1.size : Int) := of_decide_eq_true asm
            have hx24 := bt_at a1 (ji21)
            replace p24 := eq_true p24
            replace q24 := eq_true q24
            refine start_ (n := 11) (S := fun w' => w'.cell? ⟨gb421, 0, none⟩ = some (u422000) ∧ w'.cell? ⟨gb421, 1, none⟩ = some (.int .i64 (wrap64 (bt a1 1))) ∧ w'.cell? ⟨gb421, 2, none⟩ = some (.slice none 0 0) ∧ w'.cell? ⟨gb421, 3, none⟩ = some (.slice none 0 0)) (ds := [10]) #[false, false, false, false, false, false, false, false, false, false, false] (by kernel_rfl) rfl rfl ⟨(blk_cell BK421.out 0).trans rfl, (blk_cell BK421.out 1).trans rfl, (blk_cell BK421.out 2).trans rfl, (blk_cell BK421.out 3).trans rfl⟩ (fun hHeld => ?_); refine with_tabW tillerref11_Read.tab8 tillerref11_Read.bits8 (fun HT_ HW_ => ?_)
            generalize wr.drew = w26 at HO_422000 BK419 BK420 BK421 HB hHeld ⊢
            refine pure_ (i := 0) (N := some 38) (v := ?_) (a' := ?_) #[true, false, false, false, false, false, false, false, false, false, false] rfl rfl (any_of HT_.out (by kernel_rfl)) (fun _ _ _ h => h) (Or.inl ⟨by rfl, ?_⟩) ?_ ?_
            rotate_left
            ·intro w'
             go_simp
             with_reducible rfl
            rotate_left
            ·simp only [Act.put, List.setIfInBounds_toArray, List.set_cons_zero, List.set_cons_succ, i64_w, i32_w]
             rfl
            refine pure_ (i := 2) (N := some 40) (v := ?_) (a' := ?_) #[true, false, true, false, false, false, false, false, false, false, false] rfl rfl (any_of HT_.out (by kernel_rfl)) (fun _ _ _ h => h) (Or.inl ⟨by rfl, ?_⟩) ?_ ?_
            rotate_left
            ·intro w'
             go_simp
             with_reducible rfl
            rotate_left
            ·simp only [Act.put, List.setIfInBounds_toArray, List.set_cons_zero, List.set_cons_succ, i64_w, i32_w]
             rfl
            refine pure_ (i := 3) (N := some 41) (v := ?_) (a' := ?_) #[true, false, true, true, false, false, false, false, false, false, false] rfl rfl (any_of HT_.out (by kernel_rfl)) (fun _ _ _ h => h) (Or.inl ⟨by rfl, ?_⟩) ?_ ?_
            rotate_left
            ·intro w'
             go_simp
             with_reducible rfl
            rotate_left
            ·simp only [Act.put, List.setIfInBounds_toArray, List.set_cons_zero, List.set_cons_succ, i64_w, i32_w]
             rfl
            refine pure_ (i := 4) (N := some 42) (v := ?_) (a' := ?_) #[true, false, true, true, true, false, false, false, false, false, false] rfl rfl (any_of HT_.out (by kernel_rfl)) (fun _ _ _ h => h) (Or.inl ⟨by rfl, ?_⟩) ?_ ?_
            rotate_left
            ·intro w'
             go_simp
             with_reducible rfl
            rotate_left
            ·simp only [Act.put, List.setIfInBounds_toArray, List.set_cons_zero, List.set_cons_succ, i64_w, i32_w]
             rfl
            refine take_ (i := 1) (N := some 39) (v := ?_) (a' := ?_) #[true, true, true, true, true, false, false, false, false, false, false] rfl rfl (take_ofW HT_.out HW_.out (by kernel_rfl)) (fun _ _ _ h => h) (Or.inl ⟨by rfl, ?_⟩) hHeld ?_ ?_
            rotate_left
            ·rintro w' ⟨s0, s1, s2, s3⟩
             go_simp
             with_reducible rfl
            rotate_left
            ·simp only [Act.put, List.setIfInBounds_toArray, List.set_cons_zero, List.set_cons_succ, i64_w, i32_w]
             rfl
            refine take_ (i := 5) (N := some 43) (v := ?_) (a' := ?_) #[true, true, true, true, true, true, false, false, false, false, false] rfl rfl (take_ofW HT_.out HW_.out (by kernel_rfl)) (fun _ _ _ h => h) (Or.inl ⟨by rfl, ?_⟩) hHeld ?_ ?_
            rotate_left
            ·rintro w' ⟨s0, s1, s2, s3⟩
             go_simp
             with_reducible rfl
            rotate_left
            ·simp only [Act.put, List.setIfInBounds_toArray, List.set_cons_zero, List.set_cons_succ, i64_w, i32_w]
             rfl
            refine pure_ (i := 6) (N := some 44) (v := ?_) (a' := ?_) #[true, true, true, true, true, true, true, false, false, false, false] rfl rfl (any_of HT_.out (by kernel_rfl)) (fun _ _ _ h => h) (Or.inl ⟨by rfl, ?_⟩) ?_ ?_
            rotate_left
            ·intro w'
             go_simp
             with_reducible rfl
            rotate_left
            ·simp only [Act.put, List.setIfInBounds_toArray, List.set_cons_zero, List.set_cons_succ, i64_w, i32_w]
             rfl
            refine one_ (i := 7) (N := some 45) #[true, true, true, true, true, true, true, true, false, false, false] rfl rfl (one_of HT_.out (by kernel_rfl)) (by decide) (fun K hK => ?_)
            refine value_ (w1 := ?_) (v := ?_) (by rfl) rfl ?_ ?_
            rotate_left 2
            ·go_simp
             constructor
             ·rfl
             ·rfl
            refine hK.out _ _ ⟨(blk_cell (blk_alloc BK421.out _) 0).trans rfl, (blk_cell (blk_alloc BK421.out _) 1).trans rfl, (blk_cell (blk_alloc BK421.out _) 2).trans rfl, (blk_cell (blk_alloc BK421.out _) 3).trans rfl⟩ (fun hHeld => ?_)
            clear hK K
            refine norm_ (a' := ?_) ?_ ?_
            rotate_left
            ·show Act.put _ (some 45) _ = _
             simp only [Act.put, List.setIfInBounds_toArray, List.set_cons_zero, List.set_cons_succ, i64_w, i32_w]
             rfl
            refine one_ (i := 8) (N := some 46) #[true, true, true, true, true, true, true, true, true, false, false] rfl rfl (one_of HT_.out (by kernel_rfl)) (by decide) (fun K hK => ?_)
            refine Kd.R_append_step (Kd.int .i64) (w0 := w) w.heap.size (by rfl) (.tmp 39) (.tmp 45) 24 3 (.int .i64 0) 8 rfl Try.underlying24 info3 rfl (by decide) (by omega) u422000 x422000_2 (wrap64 (bt a1 (ji21))) [.int .i64 (wrap64 (bt a1 (ji21)))] (fun _ => True) (fun _ => False) rfl rfl ?aP (fun _ hk => hk.elim) ?aF ?aO ?aB ?aS ?aL ?_
            (case aP => exact rfl)
            (case aB => exact bel)
            (case aF => exact (fun _ _ => trivial))
            (case aO => exact (rr HO_422000.out))
            (case aS => exact (below_size bel))
            (case aL => have := LMc25.out; omega)
            intro v423 w27 ho hb hg hat
            rw [← Ny422.out] at ho
            have n0_ := Aside0.mk (blk_grown (g := gb419) (o := .cells #[.int .i64 a0_0, .int .i64 a0_1, .int .i64 a0_2, .int .i64 a0_3, .int .i64 a0_4] 23 (0, 0)) (by (with_reducible repeat (first | refine blk_drewN ?_ _ | refine blk_drew ?_ | refine blk_alloc ?_ _)); exact BK419.out) hg (Kd.R_ne HO_422000.out BK419.out (by decide)))
            have n1_ := Aside0.mk (blk_grown (g := gb420) (o := .cells #[.slice none 0 0, .int .i64 0, .slice none 0 0, .slice none 0 0] 31 (0, 0)) (by (with_reducible repeat (first | refine blk_drewN ?_ _ | refine blk_drew ?_ | refine blk_alloc ?_ _)); exact BK420.out) hg (Kd.R_ne HO_422000.out BK420.out (by decide)))
            have n2_ := Aside0.mk (blk_grown (g := gb421) (o := .cells #[u422000, .int .i64 (wrap64 (bt a1 1)), .slice none 0 0, .slice none 0 0] 31 (0, 0)) (by (with_reducible repeat (first | refine blk_drewN ?_ _ | refine blk_drew ?_ | refine blk_alloc ?_ _)); exact BK421.out) hg (Kd.R_ne HO_422000.out BK421.out (by decide)))
            have n3_ := Aside0.mk (hb)
            have n4_ := Aside0.mk (ho)
            clear BK419
            clear BK420
            clear BK421
            clear HB
            clear HO_422000
            have BK419 := n0_
            have BK420 := n1_
            have BK421 := n2_
            have HB := n3_
            have HO424 := n4_
            clear n0_ n1_ n2_ n3_ n4_
            clear ho hb hg hat
            obtain ⟨Ao28, co28, eo28⟩ := Kd.R_slice HO424.out
            (first | subst eo28 | (injection eo28 with f1_ f2_ f3_; have f4_ := f1_.symm; have f5_ := f3_.symm; clear f1_ f2_ f3_; subst f4_; subst f5_))
            refine hK.out _ _ ⟨(blk_cell BK421.out 0).trans rfl, (blk_cell BK421.out 1).trans rfl, (blk_cell BK421.out 2).trans rfl, (blk_cell BK421.out 3).trans rfl⟩ (fun hHeld => ?_)
            clear hK K
            refine norm_ (a' := ?_) ?_ ?_
            rotate_left
            ·show Act.put _ (some 46) _ = _
             simp only [Act.put, List.setIfInBounds_toArray, List.set_cons_zero, List.set_cons_succ, i64_w, i32_w]
             rfl
            refine pure_ (i := 9) (N := some 47) (v := ?_) (a' := ?_) #[true, true, true, true, true, true, true, true, true, true, false] rfl rfl (any_of HT_.out (by kernel_rfl)) (fun _ _ _ h => h) (Or.inl ⟨by rfl, ?_⟩) ?_ ?_
            rotate_left
            ·intro w'
             go_simp
             with_reducible rfl
            rotate_left
            ·simp only [Act.put, List.setIfInBounds_toArray, List.set_cons_zero, List.set_cons_succ, i64_w, i32_w]
             rfl
            refine last_ (i := 10) (N := none) #[true, true, true, true, true, true, true, true, true, true, true] rfl rfl (one_of HT_.out (by kernel_rfl)) (by decide) (fun K hK => ?_)
            have hs29 : w27.cell? ⟨gb421, 0, none⟩ = some (u422000) := (blk_cell BK421.out 0).trans rfl
            have hfs29 := blk_frozen BK421.out 0
            have hns29_0 := NB419_421.out
            have hns29_1 := NB420_421.out
            have hms29_0 := NB421_419.out
            have hms29_1 := NB421_420.out
            refine skip_ (w1 := ?_) (by rfl) rfl ?_ ?_
            rotate_left
            ·go_simp
             rfl
            refine hK.out _ _ ?_
            clear hK K
            refine done_ (done_of HT_.out (by kernel_rfl)) ?_
            try go_wp2
            go_roundg k2
            case measure => have := HJ2.out; have := HK2.out; omega
            case rel => exact ⟨(wrap64 (x8_2 + 1)), (y422), (.slice Ao28 y422.length co28), rs, H', ⟨by have := HJ2.out; have := HK2.out; omega⟩, ⟨by (with_reducible repeat (first | apply Kd.R_alloc | apply Kd.R_drewN | apply Kd.R_drew)); exact Kd.R_mono (Kd.R_far (p := ⟨gb421, 0, none⟩) (Kd.R_types HO424.out BK421.out (by decide)) (fun _ hk => hk.2) (.slice Ao28 y422.length co28)) (fun _ hk => trivial)⟩, ⟨by (with_reducible repeat (first | refine blk_drewN ?_ _ | refine blk_drew ?_ | refine blk_alloc ?_ _)); refine blk_far ?_ NB419_421.out _; (with_reducible repeat (first | refine blk_drewN ?_ _ | refine blk_drew ?_ | refine blk_alloc ?_ _)); exact BK419.out⟩, ⟨by (with_reducible repeat (first | refine blk_drewN ?_ _ | refine blk_drew ?_ | refine blk_alloc ?_ _)); refine blk_far ?_ NB420_421.out _; (with_reducible repeat (first | refine blk_drewN ?_ _ | refine blk_drew ?_ | refine blk_alloc ?_ _)); exact BK420.out⟩, ⟨by (with_reducible repeat (first | refine blk_drewN ?_ _ | refine blk_drew ?_ | refine blk_alloc ?_ _)); refine blk_put (cs := #[u422000, .int .i64 (wrap64 (bt a1 1)), .slice none 0 0, .slice none 0 0]) ?_ 0 _ rfl; (with_reducible repeat (first | refine blk_drewN ?_ _ | refine blk_drew ?_ | refine blk_alloc ?_ _)); exact BK421.out⟩, ⟨by repeat (first | (with_reducible first | exact HB.out | apply below_alloc | apply pw_below_drewN | apply below_drew1 | refine below_set ?_ GE419.out | refine below_set ?_ GE420.out | refine below_set ?_ GE421.out) | exact HB.out)⟩⟩
           ·rw [if_neg c25] at H
            exact absurd H (by simp)
          ·rw [if_neg c23] at H
           exact absurd H (by simp)
         ·rw [if_neg c22] at H
          exact absurd H (by simp)
        ·rw [if_neg c20] at H
         have c20b0 : decide (x8_2 < (wrap64 (bt a1 0))) = false := decide_eq_false c20
         clear c20
         obtain ⟨ji30, hji30⟩ : ∃ j_ : Int, (wrap64 (2 + (wrap64 (bt a1 0)))) = j_ := ⟨_, rfl⟩
         replace H : (if 0 ≤ (ji30) then (if (ji30) ≤ (a1.size : Int) then (if (wrap64 ((wrap64 (bt a1 0)) - (wrap64 (bt a1 1)))) < 0 then (tillerref11_Read.j2 k2 (a1.extract ((ji30) : Int).toNat a1.size) 0 a0_0 a0_1 a0_2 a0_3 a0_4 x422000_2 (wrap64 (bt a1 1))) else (tillerref11_Read.j2 k2 (a1.extract ((ji30) : Int).toNat a1.size) (wrap64 ((wrap64 (bt a1 0)) - (wrap64 (bt a1 1)))) a0_0 a0_1 a0_2 a0_3 a0_4 x422000_2 (wrap64 (bt a1 1)))) else (none)) else (none)) = some (r1, r2, r3, r4, r5) := by first | (rw [hji30] at H; exact H) | (simp only [hji30] at H ⊢; exact H)
         have hji30w : (IntKind.i64.wrap (2 + (wrap64 (bt a1 0)))) = ji30 := (i64_w _).trans hji30
         by_cases c31 : 0 ≤ (ji30)
         ·rw [if_pos c31] at H
          have c31b0 := eq_true c31
          have c31b1 : decide (0 ≤ (ji30)) = true := decide_eq_true c31
          clear c31
          by_cases c32 : (ji30) ≤ (a1.size : Int)
          ·rw [if_pos c32] at H
           have c32b0 := eq_true c32
           have c32b1 : decide ((ji30) ≤ (a1.size : Int)) = true := decide_eq_true c32
           clear c32
           have HC33 := Aside0.mk H
           clear H
           have hnb34 := NB421_419.out
           have hnc34 := NB419_421.out
           have hnb35 := NB421_420.out
           have hnc35 := NB420_421.out
           obtain ⟨hcz36_0, hcz36_1, hcz36_2, hcz36_3, hfz36_0, hfz36_1, hfz36_2, hfz36_3⟩ := cq4 BK421.out
           go_upto_if 57 with (fail)
           go_cut [9] (fun v9 wc => ∃ (kq : Nat) (x9_32 : Int), v9 = .int .i64 x9_32 ∧ Aside0 (tillerref11_Read.j2 kq (a1.extract ((ji30) : Int).toNat a1.size) x9_32 a0_0 a0_1 a0_2 a0_3 a0_4 x422000_2 (wrap64 (bt a1 1)) = some (r1, r2, r3, r4, r5)) ∧ Aside0 (kq ≤ k2) ∧ Aside0 (Kd.R (Kd.int .i64) 3 wc w.heap.size (fun _ => True) u422000 x422000_2) ∧ Aside0 (wc.heap[gb419]? = some (.cells #[.int .i64 a0_0, .int .i64 a0_1, .int .i64 a0_2, .int .i64 a0_3, .int .i64 a0_4] 23 (0, 0))) ∧ Aside0 (wc.heap[gb420]? = some (.cells #[(.slice none 0 0), .int .i64 0, (.slice none 0 0), (.slice none 0 0)] 31 (0, 0))) ∧ Aside0 (wc.heap[gb421]? = some (.cells #[u422000, .int .i64 (wrap64 (bt a1 1)), (.slice none 0 0), (.slice none 0 0)] 31 (0, 0))) ∧ Aside0 (Below w.heap.size w wc))
           case first =>
            have H := HC33.out
            clear HC33
            by_cases c37 : (wrap64 ((wrap64 (bt a1 0)) - (wrap64 (bt a1 1)))) < 0
            ·rw [if_pos c37] at H
             have c37b0 : decide ((wrap64 ((wrap64 (bt a1 0)) - (wrap64 (bt a1 1)))) < 0) = true := decide_eq_true c37
             clear c37
             (first | rw [c37b0] | (simp only [i64_w, i32_w]; rw [c37b0]) | skip)
             have H' := Aside0.mk H
             clear H
             go_wp2
             go_meet
             case rel => exact ⟨_, (0), rs, H', ⟨by have := HJ2.out; have := HK2.out; first | omega | exact Nat.le_refl _⟩, ⟨by (with_reducible repeat (first | apply Kd.R_alloc | apply Kd.R_drewN | apply Kd.R_drew)); exact HO_422000.out⟩, ⟨by (with_reducible repeat (first | refine blk_drewN ?_ _ | refine blk_drew ?_ | refine blk_alloc ?_ _)); exact BK419.out⟩, ⟨by (with_reducible repeat (first | refine blk_drewN ?_ _ | refine blk_drew ?_ | refine blk_alloc ?_ _)); exact BK420.out⟩, ⟨by (with_reducible repeat (first | refine blk_drewN ?_ _ | refine blk_drew ?_ | refine blk_alloc ?_ _)); exact BK421.out⟩, ⟨by repeat (first | (with_reducible first | exact HB.out | apply below_alloc | apply pw_below_drewN | apply below_drew1 | refine below_set ?_ GE419.out | refine below_set ?_ GE420.out | refine below_set ?_ GE421.out) | exact HB.out)⟩⟩
            ·rw [if_neg c37] at H
             have c37b0 : decide ((wrap64 ((wrap64 (bt a1 0)) - (wrap64 (bt a1 1)))) < 0) = false := decide_eq_false c37
             clear c37
             (first | rw [c37b0] | (simp only [i64_w, i32_w]; rw [c37b0]) | skip)
             have H' := Aside0.mk H
             clear H
             go_wp2
             go_meet
             case rel => exact ⟨_, (wrap64 ((wrap64 (bt a1 0)) - (wrap64 (bt a1 1)))), rs, H', ⟨by have := HJ2.out; have := HK2.out; first | omega | exact Nat.le_refl _⟩, ⟨by (with_reducible repeat (first | apply Kd.R_alloc | apply Kd.R_drewN | apply Kd.R_drew)); exact HO_422000.out⟩, ⟨by (with_reducible repeat (first | refine blk_drewN ?_ _ | refine blk_drew ?_ | refine blk_alloc ?_ _)); exact BK419.out⟩, ⟨by (with_reducible repeat (first | refine blk_drewN ?_ _ | refine blk_drew ?_ | refine blk_alloc ?_ _)); exact BK420.out⟩, ⟨by (with_reducible repeat (first | refine blk_drewN ?_ _ | refine blk_drew ?_ | refine blk_alloc ?_ _)); exact BK421.out⟩, ⟨by repeat (first | (with_reducible first | exact HB.out | apply below_alloc | apply pw_below_drewN | apply below_drew1 | refine below_set ?_ GE419.out | refine below_set ?_ GE420.out | refine below_set ?_ GE421.out) | exact HB.out)⟩⟩
           case rest =>
            clear HC33
            try clear c1
            try clear p1
            try clear q1
            try clear hx1
            try clear qi1
            try clear c2
            try clear p2
            try clear q2
            try clear hx2
            try clear c3
            try clear c6
            try clear c6b0
            try clear c6b1
            try clear p6
            try clear c7
            try clear c7b0
            try clear c7b1
            try clear p8
            try clear q8
            try clear hx8
            try clear qi8
            try clear c9
            try clear c10
            try clear c12
            try clear c12b0
            try clear c12b1
            try clear p13
            try clear q13
            try clear hx13
            try clear qi13
            try clear c14
            try clear c14b0
            try clear c14b1
            try clear p15
            try clear q15
            try clear hx15
            try clear qi15
            try clear c17
            try clear c18
            try clear c19
            try clear c20
            try clear c20b0
            try clear c22
            try clear c22b0
            try clear c23
            try clear c23b0
            try clear p24
            try clear q24
            try clear hx24
            try clear c25
            try clear c31
            try clear c31b0
            try clear c31b1
            try clear c32
            try clear c32b0
            try clear c32b1
            try clear c34
            try clear c35
            try clear c37
            try clear c37b0
            try clear hcz11_0
            try clear hcz11_1
            try clear hcz11_2
            try clear hcz11_3
            try clear hcz19_0
            try clear hcz19_1
            try clear hcz19_2
            try clear hcz19_3
            try clear hcz36_0
            try clear hcz36_1
            try clear hcz36_2
            try clear hcz36_3
            try clear hfz11_0
            try clear hfz11_1
            try clear hfz11_2
            try clear hfz11_3
            try clear hfz19_0
            try clear hfz19_1
            try clear hfz19_2
            try clear hfz19_3
            try clear hfz36_0
            try clear hfz36_1
            try clear hfz36_2
            try clear hfz36_3
            try clear p1
            try clear p13
            try clear p15
            try clear p2
            try clear p24
            try clear p6
            try clear p8
            try clear q1
            try clear q13
            try clear q15
            try clear q24
            try clear q8
            obtain ⟨kq, x9_32, rfl, HA, HJ32, HO_422000, BK419, BK420, BK421, HB⟩ := hcut
            cases kq with
            | zero => exact absurd HA.out (by simp [tillerref11_Read.j2])
            | succ kj32 =>
             have H := HA.out
             clear HA
             simp only [tillerref11_Read.j2] at H
             have HC38 := Aside0.mk H
             clear H
             go_upto_region 13 with (fail)
             go_cut [65] (fun v65 wc => ∃ (kq : Nat) (x65_37 : Bool), v65 = .bool x65_37 ∧ Aside0 (tillerref11_Read.j3 kq (a1.extract ((ji30) : Int).toNat a1.size) x9_32 x65_37 a0_0 a0_1 a0_2 a0_3 a0_4 x422000_2 (wrap64 (bt a1 1)) = some (r1, r2, r3, r4, r5)) ∧ Aside0 (kq ≤ kj32) ∧ Aside0 (Kd.R (Kd.int .i64) 3 wc w.heap.size (fun _ => True) u422000 x422000_2) ∧ Aside0 (wc.heap[gb419]? = some (.cells #[.int .i64 a0_0, .int .i64 a0_1, .int .i64 a0_2, .int .i64 a0_3, .int .i64 a0_4] 23 (0, 0))) ∧ Aside0 (wc.heap[gb420]? = some (.cells #[(.slice none 0 0), .int .i64 0, (.slice none 0 0), (.slice none 0 0)] 31 (0, 0))) ∧ Aside0 (wc.heap[gb421]? = some (.cells #[u422000, .int .i64 (wrap64 (bt a1 1)), (.slice none 0 0), (.slice none 0 0)] 31 (0, 0))) ∧ Aside0 (Below w.heap.size w wc))
             case first =>
              have H := HC38.out
              clear HC38
              by_cases c39 : a0_4 > 4
              ·rw [if_pos c39] at H
               have c39b0 : decide (4 < a0_4) = true := decide_eq_true c39
               clear c39
               (first | rw [c39b0] | (simp only [i64_w, i32_w]; rw [c39b0]) | skip)
               have H' := Aside0.mk H
               clear H
               have hnb40 := NB419_420.out
               have hnc40 := NB420_419.out
               have hnb41 := NB419_421.out
               have hnc41 := NB421_419.out
               obtain ⟨hcz42_0, hcz42_1, hcz42_2, hcz42_3, hcz42_4, hfz42_0, hfz42_1, hfz42_2, hfz42_3, hfz42_4⟩ := cq5 BK419.out
               go_wp2
               go_meet
               case rel => exact ⟨_, (true), rs, H', ⟨by have := HJ2.out; have := HK2.out; have := HJ32.out; first | omega | exact Nat.le_refl _⟩, ⟨by (with_reducible repeat (first | apply Kd.R_alloc | apply Kd.R_drewN | apply Kd.R_drew)); exact HO_422000.out⟩, ⟨by (with_reducible repeat (first | refine blk_drewN ?_ _ | refine blk_drew ?_ | refine blk_alloc ?_ _)); exact BK419.out⟩, ⟨by (with_reducible repeat (first | refine blk_drewN ?_ _ | refine blk_drew ?_ | refine blk_alloc ?_ _)); exact BK420.out⟩, ⟨by (with_reducible repeat (first | refine blk_drewN ?_ _ | refine blk_drew ?_ | refine blk_alloc ?_ _)); exact BK421.out⟩, ⟨by repeat (first | (with_reducible first | exact HB.out | apply below_alloc | apply pw_below_drewN | apply below_drew1 | refine below_set ?_ GE419.out | refine below_set ?_ GE420.out | refine below_set ?_ GE421.out) | exact HB.out)⟩⟩
              ·rw [if_neg c39] at H
               have c39b0 : decide (4 < a0_4) = false := decide_eq_false c39
               clear c39
               (first | rw [c39b0] | (simp only [i64_w, i32_w]; rw [c39b0]) | skip)
               have H' := Aside0.mk H
               clear H
               have hnb43 := NB419_420.out
               have hnc43 := NB420_419.out
               have hnb44 := NB419_421.out
               have hnc44 := NB421_419.out
               obtain ⟨hcz45_0, hcz45_1, hcz45_2, hcz45_3, hcz45_4, hfz45_0, hfz45_1, hfz45_2, hfz45_3, hfz45_4⟩ := cq5 BK419.out
               go_wp2
               go_meet
               case rel => exact ⟨_, (decide (a0_1 > 32)), rs, H', ⟨by have := HJ2.out; have := HK2.out; have := HJ32.out; first | omega | exact Nat.le_refl _⟩, ⟨by (with_reducible repeat (first | apply Kd.R_alloc | apply Kd.R_drewN | apply Kd.R_drew)); exact HO_422000.out⟩, ⟨by (with_reducible repeat (first | refine blk_drewN ?_ _ | refine blk_drew ?_ | refine blk_alloc ?_ _)); exact BK419.out⟩, ⟨by (with_reducible repeat (first | refine blk_drewN ?_ _ | refine blk_drew ?_ | refine blk_alloc ?_ _)); exact BK420.out⟩, ⟨by (with_reducible repeat (first | refine blk_drewN ?_ _ | refine blk_drew ?_ | refine blk_alloc ?_ _)); exact BK421.out⟩, ⟨by repeat (first | (with_reducible first | exact HB.out | apply below_alloc | apply pw_below_drewN | apply below_drew1 | refine below_set ?_ GE419.out | refine below_set ?_ GE420.out | refine below_set ?_ GE421.out) | exact HB.out)⟩⟩
             case rest =>
              clear HC38
              try clear c1
              try clear p1
              try clear q1
              try clear hx1
              try clear qi1
              try clear c2
              try clear p2
              try clear q2
              try clear hx2
              try clear c3
              try clear c4
              try clear c6
              try clear c6b0
              try clear c6b1
              try clear p6
              try clear c7
              try clear c7b0
              try clear c7b1
              try clear p8
              try clear q8
              try clear hx8
              try clear qi8
              try clear c9
              try clear c10
              try clear c12
              try clear c12b0
              try clear c12b1
              try clear p13
              try clear q13
              try clear hx13
              try clear qi13
              try clear c14
              try clear c14b0
              try clear c14b1
              try clear p15
              try clear q15
              try clear hx15
              try clear qi15
              try clear c17
              try clear c18
              try clear c19
              try clear c20
              try clear c20b0
              try clear c22
              try clear c22b0
              try clear c23
              try clear c23b0
              try clear p24
              try clear q24
              try clear hx24
              try clear c25
              try clear c31
              try clear c31b0
              try clear c31b1
              try clear c32
              try clear c32b0
              try clear c32b1
              try clear c34
              try clear c35
              try clear c37
              try clear c37b0
              try clear c39
              try clear c39b0
              try clear c40
              try clear c41
              try clear c43
              try clear c44
              try clear hcz11_0
              try clear hcz11_1
              try clear hcz11_2
              try clear hcz11_3
              try clear hcz19_0
              try clear hcz19_1
              try clear hcz19_2
              try clear hcz19_3
              try clear hcz36_0
              try clear hcz36_1
              try clear hcz36_2
              try clear hcz36_3
              try clear hcz42_0
              try clear hcz42_1
              try clear hcz42_2
              try clear hcz42_3
              try clear hcz42_4
              try clear hcz45_0
              try clear hcz45_1
              try clear hcz45_2
              try clear hcz45_3
              try clear hcz45_4
              try clear hfz11_0
              try clear hfz11_1
              try clear hfz11_2
              try clear hfz11_3
              try clear hfz19_0
              try clear hfz19_1
              try clear hfz19_2
              try clear hfz19_3
              try clear hfz36_0
              try clear hfz36_1
              try clear hfz36_2
              try clear hfz36_3
              try clear hfz42_0
              try clear hfz42_1
              try clear hfz42_2
              try clear hfz42_3
              try clear hfz42_4
              try clear hfz45_0
              try clear hfz45_1
              try clear hfz45_2
              try clear hfz45_3
              try clear hfz45_4
              try clear p1
              try clear p13
              try clear p15
              try clear p2
              try clear p24
              try clear p6
              try clear p8
              try clear q1
              try clear q13
              try clear q15
              try clear q2
              try clear q24
              try clear q8
              obtain ⟨kq, x65_37, rfl, HA, HJ37, HO_422000, BK419, BK420, BK421, HB⟩ := hcut
              cases kq with
              | zero => exact absurd HA.out (by simp [tillerref11_Read.j3])
              | succ kj37 =>
               have H := HA.out
               clear HA
               simp only [tillerref11_Read.j3] at H
               by_cases c46 : x65_37 = true
               ·subst c46
                have H1 : (some (([] : List Int), 0, ([] : List (List (List Int))), ([] : List (List (List Int))), 6)) = some (r1, r2, r3, r4, r5) := by rw [if_pos rfl] at H; exact H
                clear H
                have H := H1
                clear H1
                simp only [Option.some.injEq, Prod.mk.injEq] at H
                obtain ⟨rfl, rfl, rfl, rfl, rfl⟩ := H
                have hnb47 := NB420_419.out
                have hnc47 := NB419_420.out
                have hnb48 := NB420_421.out
                have hnc48 := NB421_420.out
                obtain ⟨hcz49_0, hcz49_1, hcz49_2, hcz49_3, hfz49_0, hfz49_1, hfz49_2, hfz49_3⟩ := cq4 BK420.out
                go_wp2
                refine bodyPost_ret (results_ct rfl _ _ gb420 31 #[.slice none 0 0, .int .i64 0, .slice none 0 0, .slice none 0 0] (0, 0) _ rfl (bkp BK420.out) Try.underlying31 rfl (by kernel_rfl)) rfl ?_
                exact ⟨_, _, _, by first | rfl | (simp [errW_none, errW_some] <;> rfl) | (simp only [← hji30]; first | rfl | (simp [errW_none, errW_some] <;> rfl)) | (simp [*, errW_none, errW_some] <;> rfl), by first | exact Kd.R_nil _ _ _ _ _ | exact Kd.N_nil _ _ _ _ _ | exact Kd.V_nil _ _ _ _ _ | exact Kd.Q_nil _ _ _ _ _ | exact Kd.S_nil _ _ _ _ _, by first | exact Kd.R_nil _ _ _ _ _ | exact Kd.N_nil _ _ _ _ _ | exact Kd.V_nil _ _ _ _ _ | exact Kd.Q_nil _ _ _ _ _ | exact Kd.S_nil _ _ _ _ _, by first | exact Kd.R_nil _ _ _ _ _ | exact Kd.N_nil _ _ _ _ _ | exact Kd.V_nil _ _ _ _ _ | exact Kd.Q_nil _ _ _ _ _ | exact Kd.S_nil _ _ _ _ _, by repeat (first | (with_reducible first | exact HB.out | apply below_alloc | apply pw_below_drewN | apply below_drew1 | refine below_set ?_ GE419.out | refine below_set ?_ GE420.out | refine below_set ?_ GE421.out) | exact HB.out)⟩
               ·replace c46 := Bool.eq_false_iff.mpr c46
                subst c46
                have H1 : (if ((a1.extract ((ji30) : Int).toNat a1.size).size : Int) = (wrap64 ((wrap64 ((wrap64 (8 * x9_32)) * (mx a0_4 0))) * (mx a0_1 0))) then ((tillerref11_lists.f kj37 (a1.extract ((ji30) : Int).toNat a1.size) (mx a0_4 0) x9_32 (mx a0_1 0)).bind fun bt425 => ((tillerref11_lists.f kj37 bt425.2 (mx a0_4 0) x9_32 (mx a0_1 0)).bind fun bt429 => ((tillerref11_Check.f kj37 a0_0 a0_1 a0_2 a0_3 a0_4 x422000_2 (wrap64 (bt a1 1)) bt425.1 bt429.1).bind fun t433 => (if t433 = 0 then (some (x422000_2, (wrap64 (bt a1 1)), bt425.1, bt429.1, 0)) else (some (([] : List Int), 0, ([] : List (List (List Int))), ([] : List (List (List Int))), t433)))))) else (some (([] : List Int), 0, ([] : List (List (List Int))), ([] : List (List (List Int))), 6))) = some (r1, r2, r3, r4, r5) := by rw [if_neg (show ¬ (false = true) by decide)] at H; exact H
                clear H
                have H := H1
                clear H1
                obtain ⟨ji50, hji50⟩ : ∃ j_ : Int, (mx a0_4 0) = j_ := ⟨_, rfl⟩
                replace H : (if ((a1.extract ((ji30) : Int).toNat a1.size).size : Int) = (wrap64 ((wrap64 ((wrap64 (8 * x9_32)) * (ji50))) * (mx a0_1 0))) then ((tillerref11_lists.f kj37 (a1.extract ((ji30) : Int).toNat a1.size) (ji50) x9_32 (mx a0_1 0)).bind fun bt425 => ((tillerref11_lists.f kj37 bt425.2 (ji50) x9_32 (mx a0_1 0)).bind fun bt429 => ((tillerref11_Check.f kj37 a0_0 a0_1 a0_2 a0_3 a0_4 x422000_2 (wrap64 (bt a1 1)) bt425.1 bt429.1).bind fun t433 => (if t433 = 0 then (some (x422000_2, (wrap64 (bt a1 1)), bt425.1, bt429.1, 0)) else (some (([] : List Int), 0, ([] : List (List (List Int))), ([] : List (List (List Int))), t433)))))) else (some (([] : List Int), 0, ([] : List (List (List Int))), ([] : List (List (List Int))), 6))) = some (r1, r2, r3, r4, r5) := by first | (rw [hji50] at H; exact H) | (simp only [hji50] at H ⊢; exact H)
                have hji50_ : (if a0_4 < 0 then 0 else a0_4) = ji50 := hji50
                obtain ⟨ji51, hji51⟩ : ∃ j_ : Int, (mx a0_1 0) = j_ := ⟨_, rfl⟩
                replace H : (if ((a1.extract ((ji30) : Int).toNat a1.size).size : Int) = (wrap64 ((wrap64 ((wrap64 (8 * x9_32)) * (ji50))) * (ji51))) then ((tillerref11_lists.f kj37 (a1.extract ((ji30) : Int).toNat a1.size) (ji50) x9_32 (ji51)).bind fun bt425 => ((tillerref11_lists.f kj37 bt425.2 (ji50) x9_32 (ji51)).bind fun bt429 => ((tillerref11_Check.f kj37 a0_0 a0_1 a0_2 a0_3 a0_4 x422000_2 (wrap64 (bt a1 1)) bt425.1 bt429.1).bind fun t433 => (if t433 = 0 then (some (x422000_2, (wrap64 (bt a1 1)), bt425.1, bt429.1, 0)) else (some (([] : List Int), 0, ([] : List (List (List Int))), ([] : List (List (List Int))), t433)))))) else (some (([] : List Int), 0, ([] : List (List (List Int))), ([] : List (List (List Int))), 6))) = some (r1, r2, r3, r4, r5) := by first | (rw [hji51] at H; exact H) | (simp only [hji51] at H ⊢; exact H)
                have hji51_ : (if a0_1 < 0 then 0 else a0_1) = ji51 := hji51
                by_cases c52 : ((a1.extract ((ji30) : Int).toNat a1.size).size : Int) = (wrap64 ((wrap64 ((wrap64 (8 * x9_32)) * (ji50))) * (ji51)))
                ·rw [if_pos c52] at H
                 have c52b0 : (((a1.extract ((ji30) : Int).toNat a1.size).size : Int) == (wrap64 ((wrap64 ((wrap64 (8 * x9_32)) * (ji50))) * (ji51)))) = true := beq_iff_eq.mpr c52
                 (try have c52z0 : (((a1.size - ((ji30) : Int).toNat : Nat) : Int) == (wrap64 ((wrap64 ((wrap64 (8 * x9_32)) * (ji50))) * (ji51)))) = true := by have h_ := c52b0; simp only [ByteArray.size_extract, Nat.min_self] at h_; exact h_)
                 have c52b1 : (((a1.extract ((ji30) : Int).toNat a1.size).size : Int) != (wrap64 ((wrap64 ((wrap64 (8 * x9_32)) * (ji50))) * (ji51)))) = false := bne_eq_false_iff_eq.mpr c52
                 (try have c52z1 : (((a1.size - ((ji30) : Int).toNat : Nat) : Int) != (wrap64 ((wrap64 ((wrap64 (8 * x9_32)) * (ji50))) * (ji51)))) = false := by have h_ := c52b1; simp only [ByteArray.size_extract, Nat.min_self] at h_; exact h_)
                 clear c52
                 replace H := Option.bind_eq_some_iff.mp H
                 obtain ⟨⟨t425, t426⟩, A530, H⟩ := H
                 replace H : ((tillerref11_lists.f kj37 t426 (ji50) x9_32 (ji51)).bind fun bt429 => ((tillerref11_Check.f kj37 a0_0 a0_1 a0_2 a0_3 a0_4 x422000_2 (wrap64 (bt a1 1)) t425 bt429.1).bind fun t433 => (if t433 = 0 then (some (x422000_2, (wrap64 (bt a1 1)), t425, bt429.1, 0)) else (some (([] : List Int), 0, ([] : List (List (List Int))), ([] : List (List (List Int))), t433))))) = some (r1, r2, r3, r4, r5) := H
                 have A53 := Aside0.mk A530
                 clear A530
                 replace H := Option.bind_eq_some_iff.mp H
                 obtain ⟨⟨t429, t430⟩, A540, H⟩ := H
                 replace H : ((tillerref11_Check.f kj37 a0_0 a0_1 a0_2 a0_3 a0_4 x422000_2 (wrap64 (bt a1 1)) t425 t429).bind fun t433 => (if t433 = 0 then (some (x422000_2, (wrap64 (bt a1 1)), t425, t429, 0)) else (some (([] : List Int), 0, ([] : List (List (List Int))), ([] : List (List (List Int))), t433)))) = some (r1, r2, r3, r4, r5) := H
                 have A54 := Aside0.mk A540
                 clear A540
                 replace H := Option.bind_eq_some_iff.mp H
                 obtain ⟨t433, A550, H⟩ := H
                 replace H : (if t433 = 0 then (some (x422000_2, (wrap64 (bt a1 1)), t425, t429, 0)) else (some (([] : List Int), 0, ([] : List (List (List Int))), ([] : List (List (List Int))), t433))) = some (r1, r2, r3, r4, r5) := H
                 have A55 := Aside0.mk A550
                 clear A550
                 by_cases c56 : t433 = 0
                 ·rw [if_pos c56] at H
                  have c56b0 : (t433 == 0) = true := beq_iff_eq.mpr c56
                  have c56b1 : (t433 != 0) = false := bne_eq_false_iff_eq.mpr c56
                  clear c56
                  simp only [Option.some.injEq, Prod.mk.injEq] at H
                  obtain ⟨rfl, rfl, rfl, rfl, rfl⟩ := H
                  try go_wp2
                  have n0_ := Aside0.mk (Kd.R_drew HO_422000.out)
                  have n1_ := Aside0.mk (blk_drew BK419.out)
                  have n2_ := Aside0.mk (blk_drew BK420.out)
                  have n3_ := Aside0.mk (blk_drew BK421.out)
                  have n4_ := Aside0.mk (below_drew1 HB.out)
                  clear HO_422000
                  clear BK419
                  clear BK420
                  clear BK421
                  clear HB
                  have HO_422000 := n0_
                  have BK419 := n1_
                  have BK420 := n2_
                  have BK421 := n3_
                  have HB := n4_
                  clear n0_ n1_ n2_ n3_ n4_
                  refine start_ (n := 8) (S := fun w' => w'.cell? ⟨gb419, 0, none⟩ = some (.int .i64 a0_0) ∧ w'.cell? ⟨gb419, 1, none⟩ = some (.int .i64 a0_1) ∧ w'.cell? ⟨gb419, 2, none⟩ = some (.int .i64 a0_2) ∧ w'.cell? ⟨gb419, 3, none⟩ = some (.int .i64 a0_3) ∧ w'.cell? ⟨gb419, 4, none⟩ = some (.int .i64 a0_4)) (ds := []) #[false, false, false, false, false, false, false, false] (by kernel_rfl) rfl rfl ⟨(blk_cell BK419.out 0).trans rfl, (blk_cell BK419.out 1).trans rfl, (blk_cell BK419.out 2).trans rfl, (blk_cell BK419.out 3).trans rfl, (blk_cell BK419.out 4).trans rfl⟩ (fun hHeld => ?_); refine with_tabW tillerref11_Read.tab15 tillerref11_Read.bits15 (fun HT_ HW_ => ?_)
                  generalize wc.drew = w57 at HO_422000 BK419 BK420 BK421 HB hHeld ⊢
                  refine pure_ (i := 0) (N := some 67) (v := ?_) (a' := ?_) #[true, false, false, false, false, false, false, false] rfl rfl (any_of HT_.out (by kernel_rfl)) (fun _ _ _ h => h) (Or.inl ⟨by rfl, ?_⟩) ?_ ?_
                  rotate_left
                  ·intro w'
                   go_simp
                   with_reducible rfl
                  rotate_left
                  ·simp only [Act.put, List.setIfInBounds_toArray, List.set_cons_zero, List.set_cons_succ, i64_w, i32_w]
                   rfl
                  refine pure_ (i := 3) (N := some 70) (v := ?_) (a' := ?_) #[true, false, false, true, false, false, false, false] rfl rfl (any_of HT_.out (by kernel_rfl)) (fun _ _ _ h => h) (Or.inl ⟨by rfl, ?_⟩) ?_ ?_
                  rotate_left
                  ·intro w'
                   go_simp
                   with_reducible rfl
                  rotate_left
                  ·simp only [Act.put, List.setIfInBounds_toArray, List.set_cons_zero, List.set_cons_succ, i64_w, i32_w]
                   rfl
                  refine take_ (i := 1) (N := some 68) (v := ?_) (a' := ?_) #[true, true, false, true, false, false, false, false] rfl rfl (take_ofW HT_.out HW_.out (by kernel_rfl)) (fun _ _ _ h => h) (Or.inl ⟨by rfl, ?_⟩) hHeld ?_ ?_
                  rotate_left
                  ·rintro w' ⟨s0, s1, s2, s3, s4⟩
                   go_simp
                   with_reducible rfl
                  rotate_left
                  ·simp only [Act.put, List.setIfInBounds_toArray, List.set_cons_zero, List.set_cons_succ, i64_w, i32_w]
                   rfl
                  refine pure_ (i := 2) (N := some 69) (v := ?_) (a' := ?_) #[true, true, true, true, false, false, false, false] rfl rfl (any_of HT_.out (by kernel_rfl)) (fun _ _ _ h => h) (Or.inl ⟨by rfl, ?_⟩) ?_ ?_
                  rotate_left
                  ·intro w'
                   go_simp
                   with_reducible rfl
                  rotate_left
                  ·simp only [Act.put, List.setIfInBounds_toArray, List.set_cons_zero, List.set_cons_succ, i64_w, i32_w]
                   rfl
                  refine pure_ (i := 6) (N := some 10) (v := ?_) (a' := ?_) #[true, true, true, true, false, false, true, false] rfl rfl (any_of HT_.out (by kernel_rfl)) (fun _ _ _ h => h) (Or.inl ⟨by rfl, ?_⟩) ?_ ?_
                  rotate_left
                  ·intro w'
                   go_simp
                   with_reducible rfl
                  rotate_left
                  ·simp only [Act.put, List.setIfInBounds_toArray, List.set_cons_zero, List.set_cons_succ, i64_w, i32_w]
                   rfl
                  refine take_ (i := 4) (N := some 71) (v := ?_) (a' := ?_) #[true, true, true, true, true, false, true, false] rfl rfl (take_ofW HT_.out HW_.out (by kernel_rfl)) (fun _ _ _ h => h) (Or.inl ⟨by rfl, ?_⟩) hHeld ?_ ?_
                  rotate_left
                  ·rintro w' ⟨s0, s1, s2, s3, s4⟩
                   go_simp
                   with_reducible rfl
                  rotate_left
                  ·simp only [Act.put, List.setIfInBounds_toArray, List.set_cons_zero, List.set_cons_succ, i64_w, i32_w]
                   rfl
                  refine pure_ (i := 5) (N := some 72) (v := ?_) (a' := ?_) #[true, true, true, true, true, true, true, false] rfl rfl (any_of HT_.out (by kernel_rfl)) (fun _ _ _ h => h) (Or.inl ⟨by rfl, ?_⟩) ?_ ?_
                  rotate_left
                  ·intro w'
                   go_simp
                   with_reducible rfl
                  rotate_left
                  ·simp only [Act.put, List.setIfInBounds_toArray, List.set_cons_zero, List.set_cons_succ, i64_w, i32_w]
                   rfl
                  refine pure_ (i := 7) (N := some 11) (v := ?_) (a' := ?_) #[true, true, true, true, true, true, true, true] rfl rfl (any_of HT_.out (by kernel_rfl)) (fun _ _ _ h => h) (Or.inl ⟨by rfl, ?_⟩) ?_ ?_
                  rotate_left
                  ·intro w'
                   go_simp
                   with_reducible rfl
                  rotate_left
                  ·simp only [Act.put, List.setIfInBounds_toArray, List.set_cons_zero, List.set_cons_succ, i64_w, i32_w]
                   rfl
                  refine done_ (done_of HT_.out (by kernel_rfl)) ?_
                  try go_wp2_with (first | ((with_reducible refine gate_callee (f := 46) rfl ?_); refine goesL_ (some 88) rfl rfl Try.func46 (by kernel_rfl) rfl #[.string (a1.extract ((ji30) : Int).toNat a1.size), .int .i64 ji50, .int .i64 x9_32, .int .i64 ji51] rfl (by (try simp only [List.map_toArray, List.map_cons, List.map_nil]); first | done | (simp only [hji30, hji50, hji51]; rfl) | rfl | (simp only [List.length_drop, List.length_take]; rfl)) ?_; (with_reducible refine (tillerref11_lists.calls kj37 (a1.extract ((ji30) : Int).toNat a1.size) ji50 x9_32 ji51 t425 t426 _ A53.out).mono ?_); rintro e w58 ⟨v427, rfl, ho0, hb⟩; refine ⟨_, rfl, ?_⟩; have n0_ := Aside0.mk (Kd.R_below (rr HO_422000.out) hb); have n1_ := Aside0.mk (Kd.R_lower ho0 (below_size bel)); have n2_ := Aside0.mk (bkb BK419.out hb); have n3_ := Aside0.mk (bkb BK420.out hb); have n4_ := Aside0.mk (bkb BK421.out hb); have n5_ := Aside0.mk (below_step bel hb); clear HO_422000; clear BK419; clear BK420; clear BK421; clear HB; have HO_422000 := n0_; have HO428 := n1_; have BK419 := n2_; have BK420 := n3_; have BK421 := n4_; have HB := n5_; clear n0_ n1_ n2_ n3_ n4_ n5_; (try clear hb); (try clear hb2); (try clear hk); (try clear hi); (try clear ho0); obtain ⟨Ao59, co59, eo59⟩ := Kd.R_slice HO428.out; subst eo59; have hnb60 := NB421_419.out; have hnc60 := NB419_421.out; have hnb61 := NB421_420.out; have hnc61 := NB420_421.out; obtain ⟨hcz62_0, hcz62_1, hcz62_2, hcz62_3, hfz62_0, hfz62_1, hfz62_2, hfz62_3⟩ := cq4 BK421.out) | ((with_reducible refine gate_callee (f := 46) rfl ?_); refine goesL_ (some 97) rfl rfl Try.func46 (by kernel_rfl) rfl #[.string t426, .int .i64 ji50, .int .i64 x9_32, .int .i64 ji51] rfl (by (try simp only [List.map_toArray, List.map_cons, List.map_nil]); first | done | (simp only [hji50, hji51]; rfl) | rfl | (simp only [List.length_drop, List.length_take]; rfl)) ?_; (with_reducible refine (tillerref11_lists.calls kj37 t426 ji50 x9_32 ji51 t429 t430 _ A54.out).mono ?_); rintro e w63 ⟨v431, rfl, ho0, hb⟩; refine ⟨_, rfl, ?_⟩; have n0_ := Aside0.mk (Kd.R_below (by (with_reducible repeat (first | apply Kd.R_alloc | apply Kd.R_drewN | apply Kd.R_drew)); exact (Kd.R_mono (Kd.R_far (p := ⟨gb421, 2, none⟩) (Kd.R_types HO_422000.out BK421.out (by decide)) (fun _ hk => hk.2) (.slice Ao59 t425.length co59)) (fun _ h_ => h_.1))) hb); have n1_ := Aside0.mk (Kd.R_elder' (by (with_reducible repeat (first | apply Kd.R_alloc | apply Kd.R_drewN | apply Kd.R_drew)); exact (Kd.R_mono (Kd.R_far (p := ⟨gb421, 2, none⟩) (Kd.R_types HO428.out BK421.out (by decide)) (fun _ hk => hk.2) (.slice Ao59 t425.length co59)) (fun _ h_ => h_.1))) (Kd.R_base ho0) hb); have n2_ := Aside0.mk (Kd.R_lower (Kd.R_new' ho0 (Kd.R_lt (by (with_reducible repeat (first | apply Kd.R_alloc | apply Kd.R_drewN | apply Kd.R_drew)); exact (Kd.R_mono (Kd.R_far (p := ⟨gb421, 2, none⟩) (Kd.R_types HO428.out BK421.out (by decide)) (fun _ hk => hk.2) (.slice Ao59 t425.length co59)) (fun _ h_ => h_.1))))) (below_size bel)); have n3_ := Aside0.mk (blk_below (g := gb419) (bk BK419.out) hb); have n4_ := Aside0.mk (blk_below (g := gb420) (bk BK420.out) hb); have n5_ := Aside0.mk (blk_below (g := gb421) (o := .cells #[u422000, .int .i64 (wrap64 (bt a1 1)), .slice Ao59 t425.length co59, .slice none 0 0] 31 (0, 0)) (bkp BK421.out) hb); have n6_ := Aside0.mk (below_step bel hb); clear HO_422000; clear HO428; clear BK419; clear BK420; clear BK421; clear HB; have HO_422000 := n0_; have HO428 := n1_; have HO432 := n2_; have BK419 := n3_; have BK420 := n4_; have BK421 := n5_; have HB := n6_; clear n0_ n1_ n2_ n3_ n4_ n5_ n6_; (try clear hb); (try clear hb2); (try clear hk); (try clear hi); (try clear ho0); obtain ⟨Ao64, co64, eo64⟩ := Kd.R_slice HO432.out; subst eo64; obtain ⟨hcz65_0, hcz65_1, hcz65_2, hcz65_3, hfz65_0, hfz65_1, hfz65_2, hfz65_3⟩ := cq4 BK421.out; have hnb66 := NB419_420.out; have hnc66 := NB420_419.out; obtain ⟨hcz67_0, hcz67_1, hcz67_2, hcz67_3, hcz67_4, hfz67_0, hfz67_1, hfz67_2, hfz67_3, hfz67_4⟩ := cq5 BK419.out; obtain ⟨Ao68, co68, eo68⟩ := Kd.R_slice HO_422000.out; subst eo68) | ((with_reducible refine gate_callee (f := 14) rfl ?_); refine goesL_ (some 103) rfl rfl Try.func14 (by kernel_rfl) rfl #[.agg #[.int .i64 a0_0, .int .i64 a0_1, .int .i64 a0_2, .int .i64 a0_3, .int .i64 a0_4], .agg #[.slice Ao68 x422000_2.length co68, .int .i64 (wrap64 (bt a1 1)), .slice Ao59 t425.length co59, .slice Ao64 t429.length co64]] rfl ar ?_; (with_reducible refine (tillerref11_Check.calls kj37 a0_0 a0_1 a0_2 a0_3 a0_4 _ _ x422000_2 (wrap64 (bt a1 1)) _ _ t425 _ _ t429 t433 _ ?side1 ?side2 ?side3 ?side4 ?side5 ?side6 A55.out).mono ?_); (case side1 => refine (Kd.R_reads' (e := 3) (base := w.heap.size) (ok := fun k_ => True) (n := x422000_2.length) (c := co68) ?_).2.2; exact (by (with_reducible repeat (first | apply Kd.R_alloc | apply Kd.R_drewN | apply Kd.R_drew)); exact (Kd.R_mono (Kd.R_far (p := ⟨gb421, 3, none⟩) (Kd.R_types HO_422000.out BK421.out (by decide)) (fun _ hk => hk.2) (.slice Ao64 t429.length co64)) (fun _ h_ => h_.1)))); (case side2 => exact (Kd.R_reads' HO_422000.out).2.1); (case side3 => refine (Kd.R_reads' (e := 62) (base := w.heap.size) (ok := fun k_ => (True ∧ some k_ ≠ (.slice Ao64 t429.length co64 : Value).ownBlock)) (n := t425.length) (c := co59) ?_).2.2; exact (by (with_reducible repeat (first | apply Kd.R_alloc | apply Kd.R_drewN | apply Kd.R_drew)); exact (Kd.R_mono (Kd.R_far (p := ⟨gb421, 3, none⟩) (Kd.R_types HO428.out BK421.out (by decide)) (fun _ hk => hk.2) (.slice Ao64 t429.length co64)) (fun _ h_ => h_.1)))); (case side4 => exact (Kd.R_reads' HO428.out).2.1); (case side5 => refine (Kd.R_reads' (e := 62) (base := w.heap.size) (ok := fun k_ => (True ∧ some k_ ≠ (.slice Ao59 t425.length co59 : Value).ownBlock)) (n := t429.length) (c := co64) ?_).2.2; exact (by (with_reducible repeat (first | apply Kd.R_alloc | apply Kd.R_drewN | apply Kd.R_drew)); exact (Kd.R_mono (Kd.R_far (p := ⟨gb421, 3, none⟩) (Kd.R_types HO432.out BK421.out (by decide)) (fun _ hk => hk.2) (.slice Ao64 t429.length co64)) (fun _ h_ => h_.1)))); (case side6 => exact (Kd.R_reads' HO432.out).2.1); rintro e w69 ⟨rfl, hb⟩; refine ⟨_, rfl, ?_⟩; have n0_ := Aside0.mk (Kd.R_below (by (with_reducible repeat (first | apply Kd.R_alloc | apply Kd.R_drewN | apply Kd.R_drew)); exact (Kd.R_mono (Kd.R_far (p := ⟨gb421, 3, none⟩) (Kd.R_types HO_422000.out BK421.out (by decide)) (fun _ hk => hk.2) (.slice Ao64 t429.length co64)) (fun _ h_ => h_.1))) hb); have n1_ := Aside0.mk (Kd.R_below (by (with_reducible repeat (first | apply Kd.R_alloc | apply Kd.R_drewN | apply Kd.R_drew)); exact (Kd.R_mono (Kd.R_far (p := ⟨gb421, 3, none⟩) (Kd.R_types HO428.out BK421.out (by decide)) (fun _ hk => hk.2) (.slice Ao64 t429.length co64)) (fun _ h_ => h_.1))) hb); have n2_ := Aside0.mk (Kd.R_below (by (with_reducible repeat (first | apply Kd.R_alloc | apply Kd.R_drewN | apply Kd.R_drew)); exact (Kd.R_mono (Kd.R_far (p := ⟨gb421, 3, none⟩) (Kd.R_types HO432.out BK421.out (by decide)) (fun _ hk => hk.2) (.slice Ao64 t429.length co64)) (fun _ h_ => h_.1))) hb); have n3_ := Aside0.mk (blk_below (g := gb419) (bk BK419.out) hb); have n4_ := Aside0.mk (blk_below (g := gb420) (bk BK420.out) hb); have n5_ := Aside0.mk (blk_below (g := gb421) (o := .cells #[.slice Ao68 x422000_2.length co68, .int .i64 (wrap64 (bt a1 1)), .slice Ao59 t425.length co59, .slice Ao64 t429.length co64] 31 (0, 0)) (bkp BK421.out) hb); have n6_ := Aside0.mk (below_step bel hb); clear HO_422000; clear HO428; clear HO432; clear BK419; clear BK420; clear BK421; clear HB; have HO_422000 := n0_; have HO428 := n1_; have HO432 := n2_; have BK419 := n3_; have BK420 := n4_; have BK421 := n5_; have HB := n6_; clear n0_ n1_ n2_ n3_ n4_ n5_ n6_; (try clear hb); (try clear hb2); (try clear hk); (try clear hi); obtain ⟨hcz70_0, hcz70_1, hcz70_2, hcz70_3, hfz70_0, hfz70_1, hfz70_2, hfz70_3⟩ := cq4 BK421.out; obtain ⟨hcz71_0, hcz71_1, hcz71_2, hcz71_3, hfz71_0, hfz71_1, hfz71_2, hfz71_3⟩ := cq4 BK420.out))
                  refine bodyPost_ret (results_ct rfl _ _ gb420 31 #[.slice Ao68 x422000_2.length co68, .int .i64 (wrap64 (bt a1 1)), .slice Ao59 t425.length co59, .slice Ao64 t429.length co64] (0, 0) _ rfl (bkp BK420.out) Try.underlying31 rfl (by kernel_rfl)) rfl ?_
                  exact ⟨_, _, _, by first | rfl | (simp [errW_none, errW_some] <;> rfl) | (simp only [← hji30, ← hji50, ← hji51]; first | rfl | (simp [errW_none, errW_some] <;> rfl)) | (simp [*, errW_none, errW_some] <;> rfl), by (with_reducible repeat (first | apply Kd.R_alloc | apply Kd.R_drewN | apply Kd.R_drew)); exact Kd.R_mono (Kd.R_far (p := ⟨gb420, 3, none⟩) (Kd.R_far (p := ⟨gb420, 2, none⟩) (Kd.R_far (p := ⟨gb420, 1, none⟩) (Kd.R_far (p := ⟨gb420, 0, none⟩) (Kd.R_types HO_422000.out BK420.out (by decide)) (fun _ hk => hk.2) (.slice Ao68 x422000_2.length co68)) (fun _ hk => hk.2) (.int .i64 (wrap64 (bt a1 1)))) (fun _ hk => hk.2) (.slice Ao59 t425.length co59)) (fun _ hk => hk.2) (.slice Ao64 t429.length co64)) (fun _ hk => trivial), by (with_reducible repeat (first | apply Kd.R_alloc | apply Kd.R_drewN | apply Kd.R_drew)); exact Kd.R_mono (Kd.R_far (p := ⟨gb420, 3, none⟩) (Kd.R_far (p := ⟨gb420, 2, none⟩) (Kd.R_far (p := ⟨gb420, 1, none⟩) (Kd.R_far (p := ⟨gb420, 0, none⟩) (Kd.R_types HO428.out BK420.out (by decide)) (fun _ hk => hk.2) (.slice Ao68 x422000_2.length co68)) (fun _ hk => hk.2) (.int .i64 (wrap64 (bt a1 1)))) (fun _ hk => hk.2) (.slice Ao59 t425.length co59)) (fun _ hk => hk.2) (.slice Ao64 t429.length co64)) (fun _ hk => hk.1.2), by (with_reducible repeat (first | apply Kd.R_alloc | apply Kd.R_drewN | apply Kd.R_drew)); exact Kd.R_mono (Kd.R_far (p := ⟨gb420, 3, none⟩) (Kd.R_far (p := ⟨gb420, 2, none⟩) (Kd.R_far (p := ⟨gb420, 1, none⟩) (Kd.R_far (p := ⟨gb420, 0, none⟩) (Kd.R_types HO432.out BK420.out (by decide)) (fun _ hk => hk.2) (.slice Ao68 x422000_2.length co68)) (fun _ hk => hk.2) (.int .i64 (wrap64 (bt a1 1)))) (fun _ hk => hk.2) (.slice Ao59 t425.length co59)) (fun _ hk => hk.2) (.slice Ao64 t429.length co64)) (fun _ hk => hk.1.2), by repeat (first | (with_reducible first | exact HB.out | apply below_alloc | apply pw_below_drewN | apply below_drew1 | refine below_set ?_ GE419.out | refine below_set ?_ GE420.out | refine below_set ?_ GE421.out) | exact HB.out)⟩
                 ·rw [if_neg c56] at H
                  have c56b0 : (t433 == 0) = false := beq_eq_false_iff_ne.mpr c56
                  have c56b1 : (t433 != 0) = true := bne_iff_ne.mpr c56
                  simp only [Option.some.injEq, Prod.mk.injEq] at H
                  obtain ⟨rfl, rfl, rfl, rfl, rfl⟩ := H
                  try go_wp2
                  have n0_ := Aside0.mk (Kd.R_drew HO_422000.out)
                  have n1_ := Aside0.mk (blk_drew BK419.out)
                  have n2_ := Aside0.mk (blk_drew BK420.out)
                  have n3_ := Aside0.mk (blk_drew BK421.out)
                  have n4_ := Aside0.mk (below_drew1 HB.out)
                  clear HO_422000
                  clear BK419
                  clear BK420
                  clear BK421
                  clear HB
                  have HO_422000 := n0_
                  have BK419 := n1_
                  have BK420 := n2_
                  have BK421 := n3_
                  have HB := n4_
                  clear n0_ n1_ n2_ n3_ n4_
                  refine start_ (n := 8) (S := fun w' => w'.cell? ⟨gb419, 0, none⟩ = some (.int .i64 a0_0) ∧ w'.cell? ⟨gb419, 1, none⟩ = some (.int .i64 a0_1) ∧ w'.cell? ⟨gb419, 2, none⟩ = some (.int .i64 a0_2) ∧ w'.cell? ⟨gb419, 3, none⟩ = some (.int .i64 a0_3) ∧ w'.cell? ⟨gb419, 4, none⟩ = some (.int .i64 a0_4)) (ds := []) #[false, false, false, false, false, false, false, false] (by kernel_rfl) rfl rfl ⟨(blk_cell BK419.out 0).trans rfl, (blk_cell BK419.out 1).trans rfl, (blk_cell BK419.out 2).trans rfl, (blk_cell BK419.out 3).trans rfl, (blk_cell BK419.out 4).trans rfl⟩ (fun hHeld => ?_); refine with_tabW tillerref11_Read.tab15 tillerref11_Read.bits15 (fun HT_ HW_ => ?_)
                  generalize wc.drew = w72 at HO_422000 BK419 BK420 BK421 HB hHeld ⊢
                  refine pure_ (i := 0) (N := some 67) (v := ?_) (a' := ?_) #[true, false, false, false, false, false, false, false] rfl rfl (any_of HT_.out (by kernel_rfl)) (fun _ _ _ h => h) (Or.inl ⟨by rfl, ?_⟩) ?_ ?_
                  rotate_left
                  ·intro w'
                   go_simp
                   with_reducible rfl
                  rotate_left
                  ·simp only [Act.put, List.setIfInBounds_toArray, List.set_cons_zero, List.set_cons_succ, i64_w, i32_w]
                   rfl
                  refine pure_ (i := 3) (N := some 70) (v := ?_) (a' := ?_) #[true, false, false, true, false, false, false, false] rfl rfl (any_of HT_.out (by kernel_rfl)) (fun _ _ _ h => h) (Or.inl ⟨by rfl, ?_⟩) ?_ ?_
                  rotate_left
                  ·intro w'
                   go_simp
                   with_reducible rfl
                  rotate_left
                  ·simp only [Act.put, List.setIfInBounds_toArray, List.set_cons_zero, List.set_cons_succ, i64_w, i32_w]
                   rfl
                  refine take_ (i := 1) (N := some 68) (v := ?_) (a' := ?_) #[true, true, false, true, false, false, false, false] rfl rfl (take_ofW HT_.out HW_.out (by kernel_rfl)) (fun _ _ _ h => h) (Or.inl ⟨by rfl, ?_⟩) hHeld ?_ ?_
                  rotate_left
                  ·rintro w' ⟨s0, s1, s2, s3, s4⟩
                   go_simp
                   with_reducible rfl
                  rotate_left
                  ·simp only [Act.put, List.setIfInBounds_toArray, List.set_cons_zero, List.set_cons_succ, i64_w, i32_w]
                   rfl
                  refine pure_ (i := 2) (N := some 69) (v := ?_) (a' := ?_) #[true, true, true, true, false, false, false, false] rfl rfl (any_of HT_.out (by kernel_rfl)) (fun _ _ _ h => h) (Or.inl ⟨by rfl, ?_⟩) ?_ ?_
                  rotate_left
                  ·intro w'
                   go_simp
                   with_reducible rfl
                  rotate_left
                  ·simp only [Act.put, List.setIfInBounds_toArray, List.set_cons_zero, List.set_cons_succ, i64_w, i32_w]
                   rfl
                  refine pure_ (i := 6) (N := some 10) (v := ?_) (a' := ?_) #[true, true, true, true, false, false, true, false] rfl rfl (any_of HT_.out (by kernel_rfl)) (fun _ _ _ h => h) (Or.inl ⟨by rfl, ?_⟩) ?_ ?_
                  rotate_left
                  ·intro w'
                   go_simp
                   with_reducible rfl
                  rotate_left
                  ·simp only [Act.put, List.setIfInBounds_toArray, List.set_cons_zero, List.set_cons_succ, i64_w, i32_w]
                   rfl
                  refine take_ (i := 4) (N := some 71) (v := ?_) (a' := ?_) #[true, true, true, true, true, false, true, false] rfl rfl (take_ofW HT_.out HW_.out (by kernel_rfl)) (fun _ _ _ h => h) (Or.inl ⟨by rfl, ?_⟩) hHeld ?_ ?_
                  rotate_left
                  ·rintro w' ⟨s0, s1, s2, s3, s4⟩
                   go_simp
                   with_reducible rfl
                  rotate_left
                  ·simp only [Act.put, List.setIfInBounds_toArray, List.set_cons_zero, List.set_cons_succ, i64_w, i32_w]
                   rfl
                  refine pure_ (i := 5) (N := some 72) (v := ?_) (a' := ?_) #[true, true, true, true, true, true, true, false] rfl rfl (any_of HT_.out (by kernel_rfl)) (fun _ _ _ h => h) (Or.inl ⟨by rfl, ?_⟩) ?_ ?_
                  rotate_left
                  ·intro w'
                   go_simp
                   with_reducible rfl
                  rotate_left
                  ·simp only [Act.put, List.setIfInBounds_toArray, List.set_cons_zero, List.set_cons_succ, i64_w, i32_w]
                   rfl
                  refine pure_ (i := 7) (N := some 11) (v := ?_) (a' := ?_) #[true, true, true, true, true, true, true, true] rfl rfl (any_of HT_.out (by kernel_rfl)) (fun _ _ _ h => h) (Or.inl ⟨by rfl, ?_⟩) ?_ ?_
                  rotate_left
                  ·intro w'
                   go_simp
                   with_reducible rfl
                  rotate_left
                  ·simp only [Act.put, List.setIfInBounds_toArray, List.set_cons_zero, List.set_cons_succ, i64_w, i32_w]
                   rfl
                  refine done_ (done_of HT_.out (by kernel_rfl)) ?_
                  try go_wp2_with (first | ((with_reducible refine gate_callee (f := 46) rfl ?_); refine goesL_ (some 88) rfl rfl Try.func46 (by kernel_rfl) rfl #[.string (a1.extract ((ji30) : Int).toNat a1.size), .int .i64 ji50, .int .i64 x9_32, .int .i64 ji51] rfl (by (try simp only [List.map_toArray, List.map_cons, List.map_nil]); first | done | (simp only [hji30, hji50, hji51]; rfl) | rfl | (simp only [List.length_drop, List.length_take]; rfl)) ?_; (with_reducible refine (tillerref11_lists.calls kj37 (a1.extract ((ji30) : Int).toNat a1.size) ji50 x9_32 ji51 t425 t426 _ A53.out).mono ?_); rintro e w73 ⟨v427, rfl, ho0, hb⟩; refine ⟨_, rfl, ?_⟩; have n0_ := Aside0.mk (Kd.R_below (rr HO_422000.out) hb); have n1_ := Aside0.mk (Kd.R_lower ho0 (below_size bel)); have n2_ := Aside0.mk (bkb BK419.out hb); have n3_ := Aside0.mk (bkb BK420.out hb); have n4_ := Aside0.mk (bkb BK421.out hb); have n5_ := Aside0.mk (below_step bel hb); clear HO_422000; clear BK419; clear BK420; clear BK421; clear HB; have HO_422000 := n0_; have HO428 := n1_; have BK419 := n2_; have BK420 := n3_; have BK421 := n4_; have HB := n5_; clear n0_ n1_ n2_ n3_ n4_ n5_; (try clear hb); (try clear hb2); (try clear hk); (try clear hi); (try clear ho0); obtain ⟨Ao74, co74, eo74⟩ := Kd.R_slice HO428.out; subst eo74; have hnb75 := NB421_419.out; have hnc75 := NB419_421.out; have hnb76 := NB421_420.out; have hnc76 := NB420_421.out; obtain ⟨hcz77_0, hcz77_1, hcz77_2, hcz77_3, hfz77_0, hfz77_1, hfz77_2, hfz77_3⟩ := cq4 BK421.out) | ((with_reducible refine gate_callee (f := 46) rfl ?_); refine goesL_ (some 97) rfl rfl Try.func46 (by kernel_rfl) rfl #[.string t426, .int .i64 ji50, .int .i64 x9_32, .int .i64 ji51] rfl (by (try simp only [List.map_toArray, List.map_cons, List.map_nil]); first | done | (simp only [hji50, hji51]; rfl) | rfl | (simp only [List.length_drop, List.length_take]; rfl)) ?_; (with_reducible refine (tillerref11_lists.calls kj37 t426 ji50 x9_32 ji51 t429 t430 _ A54.out).mono ?_); rintro e w78 ⟨v431, rfl, ho0, hb⟩; refine ⟨_, rfl, ?_⟩; have n0_ := Aside0.mk (Kd.R_below (by (with_reducible repeat (first | apply Kd.R_alloc | apply Kd.R_drewN | apply Kd.R_drew)); exact (Kd.R_mono (Kd.R_far (p := ⟨gb421, 2, none⟩) (Kd.R_types HO_422000.out BK421.out (by decide)) (fun _ hk => hk.2) (.slice Ao74 t425.length co74)) (fun _ h_ => h_.1))) hb); have n1_ := Aside0.mk (Kd.R_elder' (by (with_reducible repeat (first | apply Kd.R_alloc | apply Kd.R_drewN | apply Kd.R_drew)); exact (Kd.R_mono (Kd.R_far (p := ⟨gb421, 2, none⟩) (Kd.R_types HO428.out BK421.out (by decide)) (fun _ hk => hk.2) (.slice Ao74 t425.length co74)) (fun _ h_ => h_.1))) (Kd.R_base ho0) hb); have n2_ := Aside0.mk (Kd.R_lower (Kd.R_new' ho0 (Kd.R_lt (by (with_reducible repeat (first | apply Kd.R_alloc | apply Kd.R_drewN | apply Kd.R_drew)); exact (Kd.R_mono (Kd.R_far (p := ⟨gb421, 2, none⟩) (Kd.R_types HO428.out BK421.out (by decide)) (fun _ hk => hk.2) (.slice Ao74 t425.length co74)) (fun _ h_ => h_.1))))) (below_size bel)); have n3_ := Aside0.mk (blk_below (g := gb419) (bk BK419.out) hb); have n4_ := Aside0.mk (blk_below (g := gb420) (bk BK420.out) hb); have n5_ := Aside0.mk (blk_below (g := gb421) (o := .cells #[u422000, .int .i64 (wrap64 (bt a1 1)), .slice Ao74 t425.length co74, .slice none 0 0] 31 (0, 0)) (bkp BK421.out) hb); have n6_ := Aside0.mk (below_step bel hb); clear HO_422000; clear HO428; clear BK419; clear BK420; clear BK421; clear HB; have HO_422000 := n0_; have HO428 := n1_; have HO432 := n2_; have BK419 := n3_; have BK420 := n4_; have BK421 := n5_; have HB := n6_; clear n0_ n1_ n2_ n3_ n4_ n5_ n6_; (try clear hb); (try clear hb2); (try clear hk); (try clear hi); (try clear ho0); obtain ⟨Ao79, co79, eo79⟩ := Kd.R_slice HO432.out; subst eo79; obtain ⟨hcz80_0, hcz80_1, hcz80_2, hcz80_3, hfz80_0, hfz80_1, hfz80_2, hfz80_3⟩ := cq4 BK421.out; have hnb81 := NB419_420.out; have hnc81 := NB420_419.out; obtain ⟨hcz82_0, hcz82_1, hcz82_2, hcz82_3, hcz82_4, hfz82_0, hfz82_1, hfz82_2, hfz82_3, hfz82_4⟩ := cq5 BK419.out; obtain ⟨Ao83, co83, eo83⟩ := Kd.R_slice HO_422000.out; subst eo83) | ((with_reducible refine gate_callee (f := 14) rfl ?_); refine goesL_ (some 103) rfl rfl Try.func14 (by kernel_rfl) rfl #[.agg #[.int .i64 a0_0, .int .i64 a0_1, .int .i64 a0_2, .int .i64 a0_3, .int .i64 a0_4], .agg #[.slice Ao83 x422000_2.length co83, .int .i64 (wrap64 (bt a1 1)), .slice Ao74 t425.length co74, .slice Ao79 t429.length co79]] rfl ar ?_; (with_reducible refine (tillerref11_Check.calls kj37 a0_0 a0_1 a0_2 a0_3 a0_4 _ _ x422000_2 (wrap64 (bt a1 1)) _ _ t425 _ _ t429 t433 _ ?side1 ?side2 ?side3 ?side4 ?side5 ?side6 A55.out).mono ?_); (case side1 => refine (Kd.R_reads' (e := 3) (base := w.heap.size) (ok := fun k_ => True) (n := x422000_2.length) (c := co83) ?_).2.2; exact (by (with_reducible repeat (first | apply Kd.R_alloc | apply Kd.R_drewN | apply Kd.R_drew)); exact (Kd.R_mono (Kd.R_far (p := ⟨gb421, 3, none⟩) (Kd.R_types HO_422000.out BK421.out (by decide)) (fun _ hk => hk.2) (.slice Ao79 t429.length co79)) (fun _ h_ => h_.1)))); (case side2 => exact (Kd.R_reads' HO_422000.out).2.1); (case side3 => refine (Kd.R_reads' (e := 62) (base := w.heap.size) (ok := fun k_ => (True ∧ some k_ ≠ (.slice Ao79 t429.length co79 : Value).ownBlock)) (n := t425.length) (c := co74) ?_).2.2; exact (by (with_reducible repeat (first | apply Kd.R_alloc | apply Kd.R_drewN | apply Kd.R_drew)); exact (Kd.R_mono (Kd.R_far (p := ⟨gb421, 3, none⟩) (Kd.R_types HO428.out BK421.out (by decide)) (fun _ hk => hk.2) (.slice Ao79 t429.length co79)) (fun _ h_ => h_.1)))); (case side4 => exact (Kd.R_reads' HO428.out).2.1); (case side5 => refine (Kd.R_reads' (e := 62) (base := w.heap.size) (ok := fun k_ => (True ∧ some k_ ≠ (.slice Ao74 t425.length co74 : Value).ownBlock)) (n := t429.length) (c := co79) ?_).2.2; exact (by (with_reducible repeat (first | apply Kd.R_alloc | apply Kd.R_drewN | apply Kd.R_drew)); exact (Kd.R_mono (Kd.R_far (p := ⟨gb421, 3, none⟩) (Kd.R_types HO432.out BK421.out (by decide)) (fun _ hk => hk.2) (.slice Ao79 t429.length co79)) (fun _ h_ => h_.1)))); (case side6 => exact (Kd.R_reads' HO432.out).2.1); rintro e w84 ⟨rfl, hb⟩; refine ⟨_, rfl, ?_⟩; have n0_ := Aside0.mk (Kd.R_below (by (with_reducible repeat (first | apply Kd.R_alloc | apply Kd.R_drewN | apply Kd.R_drew)); exact (Kd.R_mono (Kd.R_far (p := ⟨gb421, 3, none⟩) (Kd.R_types HO_422000.out BK421.out (by decide)) (fun _ hk => hk.2) (.slice Ao79 t429.length co79)) (fun _ h_ => h_.1))) hb); have n1_ := Aside0.mk (Kd.R_below (by (with_reducible repeat (first | apply Kd.R_alloc | apply Kd.R_drewN | apply Kd.R_drew)); exact (Kd.R_mono (Kd.R_far (p := ⟨gb421, 3, none⟩) (Kd.R_types HO428.out BK421.out (by decide)) (fun _ hk => hk.2) (.slice Ao79 t429.length co79)) (fun _ h_ => h_.1))) hb); have n2_ := Aside0.mk (Kd.R_below (by (with_reducible repeat (first | apply Kd.R_alloc | apply Kd.R_drewN | apply Kd.R_drew)); exact (Kd.R_mono (Kd.R_far (p := ⟨gb421, 3, none⟩) (Kd.R_types HO432.out BK421.out (by decide)) (fun _ hk => hk.2) (.slice Ao79 t429.length co79)) (fun _ h_ => h_.1))) hb); have n3_ := Aside0.mk (blk_below (g := gb419) (bk BK419.out) hb); have n4_ := Aside0.mk (blk_below (g := gb420) (bk BK420.out) hb); have n5_ := Aside0.mk (blk_below (g := gb421) (o := .cells #[.slice Ao83 x422000_2.length co83, .int .i64 (wrap64 (bt a1 1)), .slice Ao74 t425.length co74, .slice Ao79 t429.length co79] 31 (0, 0)) (bkp BK421.out) hb); have n6_ := Aside0.mk (below_step bel hb); clear HO_422000; clear HO428; clear HO432; clear BK419; clear BK420; clear BK421; clear HB; have HO_422000 := n0_; have HO428 := n1_; have HO432 := n2_; have BK419 := n3_; have BK420 := n4_; have BK421 := n5_; have HB := n6_; clear n0_ n1_ n2_ n3_ n4_ n5_ n6_; (try clear hb); (try clear hb2); (try clear hk); (try clear hi); obtain ⟨hcz85_0, hcz85_1, hcz85_2, hcz85_3, hfz85_0, hfz85_1, hfz85_2, hfz85_3⟩ := cq4 BK420.out))
                  refine bodyPost_ret (results_ct rfl _ _ gb420 31 #[.slice none 0 0, .int .i64 0, .slice none 0 0, .slice none 0 0] (0, 0) _ rfl (bkp BK420.out) Try.underlying31 rfl (by kernel_rfl)) rfl ?_
                  exact ⟨_, _, _, by first | rfl | (simp [errW_none, errW_some] <;> rfl) | (simp only [← hji30, ← hji50, ← hji51]; first | rfl | (simp [errW_none, errW_some] <;> rfl)) | (simp [*, errW_none, errW_some] <;> rfl), by first | exact Kd.R_nil _ _ _ _ _ | exact Kd.N_nil _ _ _ _ _ | exact Kd.V_nil _ _ _ _ _ | exact Kd.Q_nil _ _ _ _ _ | exact Kd.S_nil _ _ _ _ _, by first | exact Kd.R_nil _ _ _ _ _ | exact Kd.N_nil _ _ _ _ _ | exact Kd.V_nil _ _ _ _ _ | exact Kd.Q_nil _ _ _ _ _ | exact Kd.S_nil _ _ _ _ _, by first | exact Kd.R_nil _ _ _ _ _ | exact Kd.N_nil _ _ _ _ _ | exact Kd.V_nil _ _ _ _ _ | exact Kd.Q_nil _ _ _ _ _ | exact Kd.S_nil _ _ _ _ _, by repeat (first | (with_reducible first | exact HB.out | apply below_alloc | apply pw_below_drewN | apply below_drew1 | refine below_set ?_ GE419.out | refine below_set ?_ GE420.out | refine below_set ?_ GE421.out) | exact HB.out)⟩
                ·rw [if_neg c52] at H
                 have c52b0 : (((a1.extract ((ji30) : Int).toNat a1.size).size : Int) == (wrap64 ((wrap64 ((wrap64 (8 * x9_32)) * (ji50))) * (ji51)))) = false := beq_eq_false_iff_ne.mpr c52
                 (try have c52z0 : (((a1.size - ((ji30) : Int).toNat : Nat) : Int) == (wrap64 ((wrap64 ((wrap64 (8 * x9_32)) * (ji50))) * (ji51)))) = false := by have h_ := c52b0; simp only [ByteArray.size_extract, Nat.min_self] at h_; exact h_)
                 have c52b1 : (((a1.extract ((ji30) : Int).toNat a1.size).size : Int) != (wrap64 ((wrap64 ((wrap64 (8 * x9_32)) * (ji50))) * (ji51)))) = true := bne_iff_ne.mpr c52
                 (try have c52z1 : (((a1.size - ((ji30) : Int).toNat : Nat) : Int) != (wrap64 ((wrap64 ((wrap64 (8 * x9_32)) * (ji50))) * (ji51)))) = true := by have h_ := c52b1; simp only [ByteArray.size_extract, Nat.min_self] at h_; exact h_)
                 simp only [Option.some.injEq, Prod.mk.injEq] at H
                 obtain ⟨rfl, rfl, rfl, rfl, rfl⟩ := H
                 try go_wp2
                 have n0_ := Aside0.mk (Kd.R_drew HO_422000.out)
                 have n1_ := Aside0.mk (blk_drew BK419.out)
                 have n2_ := Aside0.mk (blk_drew BK420.out)
                 have n3_ := Aside0.mk (blk_drew BK421.out)
                 have n4_ := Aside0.mk (below_drew1 HB.out)
                 clear HO_422000
                 clear BK419
                 clear BK420
                 clear BK421
                 clear HB
                 have HO_422000 := n0_
                 have BK419 := n1_
                 have BK420 := n2_
                 have BK421 := n3_
                 have HB := n4_
                 clear n0_ n1_ n2_ n3_ n4_
                 refine start_ (n := 8) (S := fun w' => w'.cell? ⟨gb419, 0, none⟩ = some (.int .i64 a0_0) ∧ w'.cell? ⟨gb419, 1, none⟩ = some (.int .i64 a0_1) ∧ w'.cell? ⟨gb419, 2, none⟩ = some (.int .i64 a0_2) ∧ w'.cell? ⟨gb419, 3, none⟩ = some (.int .i64 a0_3) ∧ w'.cell? ⟨gb419, 4, none⟩ = some (.int .i64 a0_4)) (ds := []) #[false, false, false, false, false, false, false, false] (by kernel_rfl) rfl rfl ⟨(blk_cell BK419.out 0).trans rfl, (blk_cell BK419.out 1).trans rfl, (blk_cell BK419.out 2).trans rfl, (blk_cell BK419.out 3).trans rfl, (blk_cell BK419.out 4).trans rfl⟩ (fun hHeld => ?_); refine with_tabW tillerref11_Read.tab15 tillerref11_Read.bits15 (fun HT_ HW_ => ?_)
                 generalize wc.drew = w86 at HO_422000 BK419 BK420 BK421 HB hHeld ⊢
                 refine pure_ (i := 0) (N := some 67) (v := ?_) (a' := ?_) #[true, false, false, false, false, false, false, false] rfl rfl (any_of HT_.out (by kernel_rfl)) (fun _ _ _ h => h) (Or.inl ⟨by rfl, ?_⟩) ?_ ?_
                 rotate_left
                 ·intro w'
                  go_simp
                  with_reducible rfl
                 rotate_left
                 ·simp only [Act.put, List.setIfInBounds_toArray, List.set_cons_zero, List.set_cons_succ, i64_w, i32_w]
                  rfl
                 refine pure_ (i := 3) (N := some 70) (v := ?_) (a' := ?_) #[true, false, false, true, false, false, false, false] rfl rfl (any_of HT_.out (by kernel_rfl)) (fun _ _ _ h => h) (Or.inl ⟨by rfl, ?_⟩) ?_ ?_
                 rotate_left
                 ·intro w'
                  go_simp
                  with_reducible rfl
                 rotate_left
                 ·simp only [Act.put, List.setIfInBounds_toArray, List.set_cons_zero, List.set_cons_succ, i64_w, i32_w]
                  rfl
                 refine take_ (i := 1) (N := some 68) (v := ?_) (a' := ?_) #[true, true, false, true, false, false, false, false] rfl rfl (take_ofW HT_.out HW_.out (by kernel_rfl)) (fun _ _ _ h => h) (Or.inl ⟨by rfl, ?_⟩) hHeld ?_ ?_
                 rotate_left
                 ·rintro w' ⟨s0, s1, s2, s3, s4⟩
                  go_simp
                  with_reducible rfl
                 rotate_left
                 ·simp only [Act.put, List.setIfInBounds_toArray, List.set_cons_zero, List.set_cons_succ, i64_w, i32_w]
                  rfl
                 refine pure_ (i := 2) (N := some 69) (v := ?_) (a' := ?_) #[true, true, true, true, false, false, false, false] rfl rfl (any_of HT_.out (by kernel_rfl)) (fun _ _ _ h => h) (Or.inl ⟨by rfl, ?_⟩) ?_ ?_
                 rotate_left
                 ·intro w'
                  go_simp
                  with_reducible rfl
                 rotate_left
                 ·simp only [Act.put, List.setIfInBounds_toArray, List.set_cons_zero, List.set_cons_succ, i64_w, i32_w]
                  rfl
                 refine pure_ (i := 6) (N := some 10) (v := ?_) (a' := ?_) #[true, true, true, true, false, false, true, false] rfl rfl (any_of HT_.out (by kernel_rfl)) (fun _ _ _ h => h) (Or.inl ⟨by rfl, ?_⟩) ?_ ?_
                 rotate_left
                 ·intro w'
                  go_simp
                  with_reducible rfl
                 rotate_left
                 ·simp only [Act.put, List.setIfInBounds_toArray, List.set_cons_zero, List.set_cons_succ, i64_w, i32_w]
                  rfl
                 refine take_ (i := 4) (N := some 71) (v := ?_) (a' := ?_) #[true, true, true, true, true, false, true, false] rfl rfl (take_ofW HT_.out HW_.out (by kernel_rfl)) (fun _ _ _ h => h) (Or.inl ⟨by rfl, ?_⟩) hHeld ?_ ?_
                 rotate_left
                 ·rintro w' ⟨s0, s1, s2, s3, s4⟩
                  go_simp
                  with_reducible rfl
                 rotate_left
                 ·simp only [Act.put, List.setIfInBounds_toArray, List.set_cons_zero, List.set_cons_succ, i64_w, i32_w]
                  rfl
                 refine pure_ (i := 5) (N := some 72) (v := ?_) (a' := ?_) #[true, true, true, true, true, true, true, false] rfl rfl (any_of HT_.out (by kernel_rfl)) (fun _ _ _ h => h) (Or.inl ⟨by rfl, ?_⟩) ?_ ?_
                 rotate_left
                 ·intro w'
                  go_simp
                  with_reducible rfl
                 rotate_left
                 ·simp only [Act.put, List.setIfInBounds_toArray, List.set_cons_zero, List.set_cons_succ, i64_w, i32_w]
                  rfl
                 refine pure_ (i := 7) (N := some 11) (v := ?_) (a' := ?_) #[true, true, true, true, true, true, true, true] rfl rfl (any_of HT_.out (by kernel_rfl)) (fun _ _ _ h => h) (Or.inl ⟨by rfl, ?_⟩) ?_ ?_
                 rotate_left
                 ·intro w'
                  go_simp
                  with_reducible rfl
                 rotate_left
                 ·simp only [Act.put, List.setIfInBounds_toArray, List.set_cons_zero, List.set_cons_succ, i64_w, i32_w]
                  rfl
                 refine done_ (done_of HT_.out (by kernel_rfl)) ?_
                 have hnb87 := NB420_419.out
                 have hnc87 := NB419_420.out
                 have hnb88 := NB420_421.out
                 have hnc88 := NB421_420.out
                 obtain ⟨hcz89_0, hcz89_1, hcz89_2, hcz89_3, hfz89_0, hfz89_1, hfz89_2, hfz89_3⟩ := cq4 BK420.out
                 try go_wp2
                 refine bodyPost_ret (results_ct rfl _ _ gb420 31 #[.slice none 0 0, .int .i64 0, .slice none 0 0, .slice none 0 0] (0, 0) _ rfl (bkp BK420.out) Try.underlying31 rfl (by kernel_rfl)) rfl ?_
                 exact ⟨_, _, _, by first | rfl | (simp [errW_none, errW_some] <;> rfl) | (simp only [← hji30, ← hji50, ← hji51]; first | rfl | (simp [errW_none, errW_some] <;> rfl)) | (simp [*, errW_none, errW_some] <;> rfl), by first | exact Kd.R_nil _ _ _ _ _ | exact Kd.N_nil _ _ _ _ _ | exact Kd.V_nil _ _ _ _ _ | exact Kd.Q_nil _ _ _ _ _ | exact Kd.S_nil _ _ _ _ _, by first | exact Kd.R_nil _ _ _ _ _ | exact Kd.N_nil _ _ _ _ _ | exact Kd.V_nil _ _ _ _ _ | exact Kd.Q_nil _ _ _ _ _ | exact Kd.S_nil _ _ _ _ _, by first | exact Kd.R_nil _ _ _ _ _ | exact Kd.N_nil _ _ _ _ _ | exact Kd.V_nil _ _ _ _ _ | exact Kd.Q_nil _ _ _ _ _ | exact Kd.S_nil _ _ _ _ _, by repeat (first | (with_reducible first | exact HB.out | apply below_alloc | apply pw_below_drewN | apply below_drew1 | refine below_set ?_ GE419.out | refine below_set ?_ GE420.out | refine below_set ?_ GE421.out) | exact HB.out)⟩
          ·rw [if_neg c32] at H
           exact absurd H (by simp)
         ·rw [if_neg c31] at H
          exact absurd H (by simp)
     ·rw [if_neg c14] at H
      exact absurd H (by simp)
    ·rw [if_neg c12] at H
     exact absurd H (by simp)

end Go.Proofs.Ytepbebelbcbciaa.Q
