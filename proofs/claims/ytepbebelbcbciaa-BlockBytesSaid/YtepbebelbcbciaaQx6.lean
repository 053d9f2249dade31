/- Functions of the program as plain Lean functions, each with a proof that the program's call comes to what it says; and rows of statements over them. No condition but those that the theorems name. Written by a program of this session (myprint.py, over the kit's print with patches of its own). -/
import Derived.Test.YtepbebelbcbciaaQx0
import Derived.Test.YtepbebelbcbciaaQx5
import Derived.Test.YtepbebelbcbciaaZWords
namespace Go.Proofs.Ytepbebelbcbciaa.Q
open Go.RowKit Go.Proofs.YtepbebelbcbciaaW.PrintWords Go.Proofs.YtepbebelbcbciaaW.PrintLast Go.Proofs.YtepbebelbcbciaaW.PrintMore
attribute [local go_sem] max2_int min2_int max_two min_two max_three min_three max_four min_four   -- for this text's walks alone
set_option linter.unusedVariables false
set_option linter.unusedSimpArgs false

/-! ### tillerref11_Check: function 14 -/
mutual
def tillerref11_Check.j0 : Nat → Bool → Int → Int → Int → Int → Int → List Int → Int → List (List (List Int)) → List (List (List Int)) → Option (Int)
 | 0, _, _, _, _, _, _, _, _, _, _ => none
 | k + 1, x49, x224000, x224001, x224002, x224003, x224004, x225000, x225001, x225002, x225003 => if x49 = true then (some 4) else (tillerref11_Check.l0 k x225000 (x225000.length : Int) 0 x224000 x224001 x224002 x224003 x224004 x225000 x225001 x225002 x225003)
def tillerref11_Check.l0 : Nat → List Int → Int → Int → Int → Int → Int → Int → Int → List Int → Int → List (List (List Int)) → List (List (List Int)) → Option (Int)
 | 0, _, _, _, _, _, _, _, _, _, _, _, _ => none
 | k + 1, x51, x52, x53, x224000, x224001, x224002, x224003, x224004, x225000, x225001, x225002, x225003 => if x53 < x52 then (if 0 ≤ x53 then (if x53 < (x51.length : Int) then (if (rd x51 x53) < 0 then (some 7) else (if (rd x51 x53) ≥ x224000 then (some 7) else (tillerref11_Check.l0 k x51 x52 (wrap64 (x53 + 1)) x224000 x224001 x224002 x224003 x224004 x225000 x225001 x225002 x225003))) else (none)) else (none)) else ((tillerref11_shaped.f k x225002 (wrap64 ((x225000.length : Int) - x225001)) x224001).bind fun t226 => (if t226 = true then ((tillerref11_shaped.f k x225003 (wrap64 ((x225000.length : Int) - x225001)) x224001).bind fun t227 => (if t227 = true then (some 0) else (some 4))) else (some 4)))
end
def tillerref11_Check.f (k : Nat) (a0_0 : Int) (a0_1 : Int) (a0_2 : Int) (a0_3 : Int) (a0_4 : Int) (l1_0 : List Int) (a1_1 : Int) (l1_2 : List (List (List Int))) (l1_3 : List (List (List Int))) : Option (Int) := if a1_1 < 0 then (tillerref11_Check.j0 k true a0_0 a0_1 a0_2 a0_3 a0_4 l1_0 a1_1 l1_2 l1_3) else (if a1_1 ≥ (l1_0.length : Int) then (tillerref11_Check.j0 k true a0_0 a0_1 a0_2 a0_3 a0_4 l1_0 a1_1 l1_2 l1_3) else (if (l1_0.length : Int) > 128 then (tillerref11_Check.j0 k true a0_0 a0_1 a0_2 a0_3 a0_4 l1_0 a1_1 l1_2 l1_3) else (if (wrap64 ((l1_0.length : Int) - a1_1)) > 16 then (tillerref11_Check.j0 k true a0_0 a0_1 a0_2 a0_3 a0_4 l1_0 a1_1 l1_2 l1_3) else (if (l1_2.length : Int) = a0_4 then (tillerref11_Check.j0 k ((l1_3.length : Int) != a0_4) a0_0 a0_1 a0_2 a0_3 a0_4 l1_0 a1_1 l1_2 l1_3) else (tillerref11_Check.j0 k true a0_0 a0_1 a0_2 a0_3 a0_4 l1_0 a1_1 l1_2 l1_3)))))
theorem tillerref11_Check.mono_l : ∀ k, (∀ y0 y1 y2 y3 y4 y5 y6 y7 y8 y9, LeO (tillerref11_Check.j0 k y0 y1 y2 y3 y4 y5 y6 y7 y8 y9) (tillerref11_Check.j0 (k + 1) y0 y1 y2 y3 y4 y5 y6 y7 y8 y9)) ∧ (∀ y0 y1 y2 y3 y4 y5 y6 y7 y8 y9 y10 y11, LeO (tillerref11_Check.l0 k y0 y1 y2 y3 y4 y5 y6 y7 y8 y9 y10 y11) (tillerref11_Check.l0 (k + 1) y0 y1 y2 y3 y4 y5 y6 y7 y8 y9 y10 y11))
 | 0 => ⟨fun _ _ _ _ _ _ _ _ _ _ r h => by simp [tillerref11_Check.j0] at h, fun _ _ _ _ _ _ _ _ _ _ _ _ r h => by simp [tillerref11_Check.l0] at h⟩
 | k + 1 => by
  obtain ⟨ih0, ih1⟩ := tillerref11_Check.mono_l k
  refine ⟨?_, ?_⟩
  ·intro y0 y1 y2 y3 y4 y5 y6 y7 y8 y9
   unfold tillerref11_Check.j0
   repeat' first
   | (with_reducible exact ih0 _ _ _ _ _ _ _ _ _ _)
   | (with_reducible exact ih1 _ _ _ _ _ _ _ _ _ _ _ _)
   | (with_reducible exact tillerref11_shaped.mono _ _ _ _)
   | (with_reducible exact LeO.refl _)
   | (with_reducible exact LeO.none _)
   | (with_reducible refine LeO.ite ?_ ?_)
   | (with_reducible refine LeO.bind ?_ (fun _ => ?_))
   | exact ih0 _ _ _ _ _ _ _ _ _ _
   | exact ih1 _ _ _ _ _ _ _ _ _ _ _ _
   | exact tillerref11_shaped.mono _ _ _ _
   | exact LeO.none _
   | refine LeO.ite ?_ ?_
   | refine LeO.bind ?_ (fun _ => ?_)
  ·intro y0 y1 y2 y3 y4 y5 y6 y7 y8 y9 y10 y11
   unfold tillerref11_Check.l0
   repeat' first
   | (with_reducible exact ih0 _ _ _ _ _ _ _ _ _ _)
   | (with_reducible exact ih1 _ _ _ _ _ _ _ _ _ _ _ _)
   | (with_reducible exact tillerref11_shaped.mono _ _ _ _)
   | (with_reducible exact LeO.refl _)
   | (with_reducible exact LeO.none _)
   | (with_reducible refine LeO.ite ?_ ?_)
   | (with_reducible refine LeO.bind ?_ (fun _ => ?_))
   | exact ih0 _ _ _ _ _ _ _ _ _ _
   | exact ih1 _ _ _ _ _ _ _ _ _ _ _ _
   | exact tillerref11_shaped.mono _ _ _ _
   | exact LeO.none _
   | refine LeO.ite ?_ ?_
   | refine LeO.bind ?_ (fun _ => ?_)
theorem tillerref11_Check.mono : ∀ a0 a1 a2 a3 a4 a5 a6 a7 a8 k, LeO (tillerref11_Check.f k a0 a1 a2 a3 a4 a5 a6 a7 a8) (tillerref11_Check.f (k + 1) a0 a1 a2 a3 a4 a5 a6 a7 a8) := by
 intro a0 a1 a2 a3 a4 a5 a6 a7 a8 k
 obtain ⟨ih0, ih1⟩ := tillerref11_Check.mono_l k
 unfold tillerref11_Check.f
 repeat' first
   | (with_reducible exact ih0 _ _ _ _ _ _ _ _ _ _)
   | (with_reducible exact ih1 _ _ _ _ _ _ _ _ _ _ _ _)
   | (with_reducible exact tillerref11_shaped.mono _ _ _ _)
   | (with_reducible exact LeO.refl _)
   | (with_reducible exact LeO.none _)
   | (with_reducible refine LeO.ite ?_ ?_)
   | (with_reducible refine LeO.bind ?_ (fun _ => ?_))
   | exact ih0 _ _ _ _ _ _ _ _ _ _
   | exact ih1 _ _ _ _ _ _ _ _ _ _ _ _
   | exact tillerref11_shaped.mono _ _ _ _
   | exact LeO.none _
   | refine LeO.ite ?_ ?_
   | refine LeO.bind ?_ (fun _ => ?_)
set_option maxHeartbeats 8000000 in
set_option maxRecDepth 100000 in
theorem tillerref11_Check.calls (k : Nat) (a0_0 : Int) (a0_1 : Int) (a0_2 : Int) (a0_3 : Int) (a0_4 : Int) (A1_0 : Option Addr) (c1_0 : Nat) (l1_0 : List Int) (a1_1 : Int) (A1_2 : Option Addr) (c1_2 : Nat) (l1_2 : List (List (List Int))) (A1_3 : Option Addr) (c1_3 : Nat) (l1_3 : List (List (List Int))) (r : Int) (w : World) (hr1_0 : Kd.C (Kd.int .i64) w A1_0 l1_0.length l1_0) (hc1_0 : l1_0.length ≤ c1_0) (hr1_2 : Kd.C (Kd.slice 61 (Kd.slice 72 (Kd.int .i32))) w A1_2 l1_2.length l1_2) (hc1_2 : l1_2.length ≤ c1_2) (hr1_3 : Kd.C (Kd.slice 61 (Kd.slice 72 (Kd.int .i32))) w A1_3 l1_3.length l1_3) (hc1_3 : l1_3.length ≤ c1_3) (h : tillerref11_Check.f k a0_0 a0_1 a0_2 a0_3 a0_4 l1_0 a1_1 l1_2 l1_3 = some r) :
  Calls Try.prog 14 #[.agg #[.int .i64 a0_0, .int .i64 a0_1, .int .i64 a0_2, .int .i64 a0_3, .int .i64 a0_4], .agg #[.slice A1_0 l1_0.length c1_0, .int .i64 a1_1, .slice A1_2 l1_2.length c1_2, .slice A1_3 l1_3.length c1_3]] w fun e w' => e = .returned (.int .i64 r) ∧ Below w.heap.size w w' := by
 have hu23 := Try.underlying23
 have hu31 := Try.underlying31
 have HR1_0 := Aside0.mk hr1_0
 have HC1_0 := Aside0.mk hc1_0
 clear hr1_0 hc1_0
 have HR1_2 := Aside0.mk hr1_2
 have HC1_2 := Aside0.mk hc1_2
 clear hr1_2 hc1_2
 have HR1_3 := Aside0.mk hr1_3
 have HC1_3 := Aside0.mk hc1_3
 clear hr1_3 hc1_3
 have HB := Aside0.mk (Below.refl w.heap.size w)
 have H : (if a1_1 < 0 then (tillerref11_Check.j0 k true a0_0 a0_1 a0_2 a0_3 a0_4 l1_0 a1_1 l1_2 l1_3) else (if a1_1 ≥ (l1_0.length : Int) then (tillerref11_Check.j0 k true a0_0 a0_1 a0_2 a0_3 a0_4 l1_0 a1_1 l1_2 l1_3) else (if (l1_0.length : Int) > 128 then (tillerref11_Check.j0 k true a0_0 a0_1 a0_2 a0_3 a0_4 l1_0 a1_1 l1_2 l1_3) else (if (wrap64 ((l1_0.length : Int) - a1_1)) > 16 then (tillerref11_Check.j0 k true a0_0 a0_1 a0_2 a0_3 a0_4 l1_0 a1_1 l1_2 l1_3) else (if (l1_2.length : Int) = a0_4 then (tillerref11_Check.j0 k ((l1_3.length : Int) != a0_4) a0_0 a0_1 a0_2 a0_3 a0_4 l1_0 a1_1 l1_2 l1_3) else (tillerref11_Check.j0 k true a0_0 a0_1 a0_2 a0_3 a0_4 l1_0 a1_1 l1_2 l1_3)))))) = some r := h
 clear h
 have HC3 := Aside0.mk H
 clear H
 go_enter Try.func14, Try.ntmps14
 go_upto_region 1 with (first | ((with_reducible refine gate_dst (N := 2) rfl ?_); (try (refine gate_guard (by rfl) ?_; dsimp only)); refine bxe (N := 2) (cs := #[.int .i64 a0_0, .int .i64 a0_1, .int .i64 a0_2, .int .i64 a0_3, .int .i64 a0_4]) (t := 23) ?_; intro gb223 hg w4 hbox hb; have n0_ := Aside0.mk (below_step bel hb); have n1_ := Aside0.mk (hbox); have n2_ := Aside0.mk ((bsz hg : w.heap.size ≤ gb223)); have n3_ := Aside0.mk ((bsz hg : w.heap.size ≤ gb223)); clear HB; have HB := n0_; have BK223 := n1_; have GW223 := n2_; have GE223 := n3_; clear n0_ n1_ n2_ n3_; clear hb hbox hg) | ((with_reducible refine gate_dst (N := 3) rfl ?_); (try (refine gate_guard (by rfl) ?_; dsimp only)); refine bxe (N := 3) (cs := #[.slice A1_0 l1_0.length c1_0, .int .i64 a1_1, .slice A1_2 l1_2.length c1_2, .slice A1_3 l1_3.length c1_3]) (t := 31) ?_; intro gb224 hg w5 hbox hb; have n0_ := Aside0.mk (bkb BK223.out hb); have n1_ := Aside0.mk (below_step bel hb); have n2_ := Aside0.mk (hbox); have n3_ := Aside0.mk ((bsz hg : w.heap.size ≤ gb224)); have n4_ := Aside0.mk ((bsz hg : w.heap.size ≤ gb224)); have n5_ := Aside0.mk ((nel BK223.out hg : gb223 ≠ gb224)); have n6_ := Aside0.mk ((neg_ BK223.out hg : gb224 ≠ gb223)); clear BK223; clear HB; have BK223 := n0_; have HB := n1_; have BK224 := n2_; have GW224 := n3_; have GE224 := n4_; have NB223_224 := n5_; have NB224_223 := n6_; clear n0_ n1_ n2_ n3_ n4_ n5_ n6_; clear hb hbox hg))
 (try simp only [Act.put, List.setIfInBounds_toArray, List.set_cons_zero, List.set_cons_succ])
 go_cut [49] (fun v49 wc => ∃ (kq : Nat) (x49_2 : Bool), v49 = .bool x49_2 ∧ Aside0 (tillerref11_Check.j0 kq x49_2 a0_0 a0_1 a0_2 a0_3 a0_4 l1_0 a1_1 l1_2 l1_3 = some r) ∧ Aside0 (kq ≤ k) ∧ Aside0 (wc.heap[gb223]? = some (.cells #[.int .i64 a0_0, .int .i64 a0_1, .int .i64 a0_2, .int .i64 a0_3, .int .i64 a0_4] 23 (0, 0))) ∧ Aside0 (wc.heap[gb224]? = some (.cells #[(.slice A1_0 l1_0.length c1_0), .int .i64 a1_1, (.slice A1_2 l1_2.length c1_2), (.slice A1_3 l1_3.length c1_3)] 31 (0, 0))) ∧ Aside0 (Below w.heap.size w wc))
 case first =>
  have H := HC3.out
  clear HC3
  by_cases c6 : a1_1 < 0
  ·rw [if_pos c6] at H
   have c6b0 : decide (a1_1 < 0) = true := decide_eq_true c6
   clear c6
   (first | rw [c6b0] | (simp only [i64_w, i32_w]; rw [c6b0]) | skip)
   have H' := Aside0.mk H
   clear H
   have hnb7 := NB224_223.out
   have hnc7 := NB223_224.out
   obtain ⟨hcz8_0, hcz8_1, hcz8_2, hcz8_3, hfz8_0, hfz8_1, hfz8_2, hfz8_3⟩ := cq4 BK224.out
   go_wp2
   go_meet
   case rel => exact ⟨_, (true), rs, H', ⟨by first | omega | exact Nat.le_refl _⟩, ⟨by (with_reducible repeat (first | refine blk_drewN ?_ _ | refine blk_drew ?_ | refine blk_alloc ?_ _)); exact BK223.out⟩, ⟨by (with_reducible repeat (first | refine blk_drewN ?_ _ | refine blk_drew ?_ | refine blk_alloc ?_ _)); exact BK224.out⟩, ⟨by repeat (first | (with_reducible first | exact HB.out | apply below_alloc | apply pw_below_drewN | apply below_drew1 | refine below_set ?_ GE223.out | refine below_set ?_ GE224.out) | exact HB.out)⟩⟩
  ·rw [if_neg c6] at H
   have c6b0 : decide (a1_1 < 0) = false := decide_eq_false c6
   clear c6
   (first | rw [c6b0] | (simp only [i64_w, i32_w]; rw [c6b0]) | skip)
   by_cases c9 : a1_1 ≥ (l1_0.length : Int)
   ·rw [if_pos c9] at H
    have c9b0 : decide ((l1_0.length : Int) ≤ a1_1) = true := decide_eq_true c9
    clear c9
    have H' := Aside0.mk H
    clear H
    have hnb10 := NB224_223.out
    have hnc10 := NB223_224.out
    obtain ⟨hcz11_0, hcz11_1, hcz11_2, hcz11_3, hfz11_0, hfz11_1, hfz11_2, hfz11_3⟩ := cq4 BK224.out
    go_wp2
    go_meet
    case rel => exact ⟨_, (true), rs, H', ⟨by first | omega | exact Nat.le_refl _⟩, ⟨by (with_reducible repeat (first | refine blk_drewN ?_ _ | refine blk_drew ?_ | refine blk_alloc ?_ _)); exact BK223.out⟩, ⟨by (with_reducible repeat (first | refine blk_drewN ?_ _ | refine blk_drew ?_ | refine blk_alloc ?_ _)); exact BK224.out⟩, ⟨by repeat (first | (with_reducible first | exact HB.out | apply below_alloc | apply pw_below_drewN | apply below_drew1 | refine below_set ?_ GE223.out | refine below_set ?_ GE224.out) | exact HB.out)⟩⟩
   ·rw [if_neg c9] at H
    have c9b0 : decide ((l1_0.length : Int) ≤ a1_1) = false := decide_eq_false c9
    clear c9
    by_cases c12 : (l1_0.length : Int) > 128
    ·rw [if_pos c12] at H
     have c12b0 : decide (128 < (l1_0.length : Int)) = true := decide_eq_true c12
     have c12b1 : decide (128 < l1_0.length) = true := decide_eq_true (by omega)
     clear c12
     have H' := Aside0.mk H
     clear H
     have hnb13 := NB224_223.out
     have hnc13 := NB223_224.out
     obtain ⟨hcz14_0, hcz14_1, hcz14_2, hcz14_3, hfz14_0, hfz14_1, hfz14_2, hfz14_3⟩ := cq4 BK224.out
     go_wp2
     go_meet
     case rel => exact ⟨_, (true), rs, H', ⟨by first | omega | exact Nat.le_refl _⟩, ⟨by (with_reducible repeat (first | refine blk_drewN ?_ _ | refine blk_drew ?_ | refine blk_alloc ?_ _)); exact BK223.out⟩, ⟨by (with_reducible repeat (first | refine blk_drewN ?_ _ | refine blk_drew ?_ | refine blk_alloc ?_ _)); exact BK224.out⟩, ⟨by repeat (first | (with_reducible first | exact HB.out | apply below_alloc | apply pw_below_drewN | apply below_drew1 | refine below_set ?_ GE223.out | refine below_set ?_ GE224.out) | exact HB.out)⟩⟩
    ·rw [if_neg c12] at H
     have c12b0 : decide (128 < (l1_0.length : Int)) = false := decide_eq_false c12
     have c12b1 : decide (128 < l1_0.length) = false := decide_eq_false (by omega)
     clear c12
     by_cases c15 : (wrap64 ((l1_0.length : Int) - a1_1)) > 16
     ·rw [if_pos c15] at H
      have c15b0 : decide (16 < (wrap64 ((l1_0.length : Int) - a1_1))) = true := decide_eq_true c15
      clear c15
      have H' := Aside0.mk H
      clear H
      have hnb16 := NB224_223.out
      have hnc16 := NB223_224.out
      obtain ⟨hcz17_0, hcz17_1, hcz17_2, hcz17_3, hfz17_0, hfz17_1, hfz17_2, hfz17_3⟩ := cq4 BK224.out
      go_wp2
      go_meet
      case rel => exact ⟨_, (true), rs, H', ⟨by first | omega | exact Nat.le_refl _⟩, ⟨by (with_reducible repeat (first | refine blk_drewN ?_ _ | refine blk_drew ?_ | refine blk_alloc ?_ _)); exact BK223.out⟩, ⟨by (with_reducible repeat (first | refine blk_drewN ?_ _ | refine blk_drew ?_ | refine blk_alloc ?_ _)); exact BK224.out⟩, ⟨by repeat (first | (with_reducible first | exact HB.out | apply below_alloc | apply pw_below_drewN | apply below_drew1 | refine below_set ?_ GE223.out | refine below_set ?_ GE224.out) | exact HB.out)⟩⟩
     ·rw [if_neg c15] at H
      have c15b0 : decide (16 < (wrap64 ((l1_0.length : Int) - a1_1))) = false := decide_eq_false c15
      clear c15
      by_cases c18 : (l1_2.length : Int) = a0_4
      ·rw [if_pos c18] at H
       have c18b0 : ((l1_2.length : Int) == a0_4) = true := beq_iff_eq.mpr c18
       have c18b1 : ((l1_2.length : Int) != a0_4) = false := bne_eq_false_iff_eq.mpr c18
       clear c18
       have H' := Aside0.mk H
       clear H
       have hnb19 := NB224_223.out
       have hnc19 := NB223_224.out
       obtain ⟨hcz20_0, hcz20_1, hcz20_2, hcz20_3, hfz20_0, hfz20_1, hfz20_2, hfz20_3⟩ := cq4 BK224.out
       obtain ⟨hcz21_0, hcz21_1, hcz21_2, hcz21_3, hcz21_4, hfz21_0, hfz21_1, hfz21_2, hfz21_3, hfz21_4⟩ := cq5 BK223.out
       go_wp2
       go_meet
       case rel => exact ⟨_, (((l1_3.length : Int) != a0_4)), rs, H', ⟨by first | omega | exact Nat.le_refl _⟩, ⟨by (with_reducible repeat (first | refine blk_drewN ?_ _ | refine blk_drew ?_ | refine blk_alloc ?_ _)); exact BK223.out⟩, ⟨by (with_reducible repeat (first | refine blk_drewN ?_ _ | refine blk_drew ?_ | refine blk_alloc ?_ _)); exact BK224.out⟩, ⟨by repeat (first | (with_reducible first | exact HB.out | apply below_alloc | apply pw_below_drewN | apply below_drew1 | refine below_set ?_ GE223.out | refine below_set ?_ GE224.out) | exact HB.out)⟩⟩
      ·rw [if_neg c18] at H
       have c18b0 : ((l1_2.length : Int) == a0_4) = false := beq_eq_false_iff_ne.mpr c18
       have c18b1 : ((l1_2.length : Int) != a0_4) = true := bne_iff_ne.mpr c18
       have H' := Aside0.mk H
       clear H
       have hnb22 := NB224_223.out
       have hnc22 := NB223_224.out
       obtain ⟨hcz23_0, hcz23_1, hcz23_2, hcz23_3, hfz23_0, hfz23_1, hfz23_2, hfz23_3⟩ := cq4 BK224.out
       obtain ⟨hcz24_0, hcz24_1, hcz24_2, hcz24_3, hcz24_4, hfz24_0, hfz24_1, hfz24_2, hfz24_3, hfz24_4⟩ := cq5 BK223.out
       go_wp2
       go_meet
       case rel => exact ⟨_, (true), rs, H', ⟨by first | omega | exact Nat.le_refl _⟩, ⟨by (with_reducible repeat (first | refine blk_drewN ?_ _ | refine blk_drew ?_ | refine blk_alloc ?_ _)); exact BK223.out⟩, ⟨by (with_reducible repeat (first | refine blk_drewN ?_ _ | refine blk_drew ?_ | refine blk_alloc ?_ _)); exact BK224.out⟩, ⟨by repeat (first | (with_reducible first | exact HB.out | apply below_alloc | apply pw_below_drewN | apply below_drew1 | refine below_set ?_ GE223.out | refine below_set ?_ GE224.out) | exact HB.out)⟩⟩
 case rest =>
  clear HC3
  try clear c1
  try clear c2
  try clear p2
  try clear c6
  try clear c6b0
  try clear p6
  try clear c7
  try clear c9
  try clear c9b0
  try clear c10
  try clear c12
  try clear c12b0
  try clear c12b1
  try clear c13
  try clear c14
  try clear c15
  try clear c15b0
  try clear c16
  try clear c18
  try clear c18b0
  try clear c18b1
  try clear c19
  try clear c22
  try clear hcz11_0
  try clear hcz11_1
  try clear hcz11_2
  try clear hcz11_3
  try clear hcz14_0
  try clear hcz14_1
  try clear hcz14_2
  try clear hcz14_3
  try clear hcz17_0
  try clear hcz17_1
  try clear hcz17_2
  try clear hcz17_3
  try clear hcz20_0
  try clear hcz20_1
  try clear hcz20_2
  try clear hcz20_3
  try clear hcz21_0
  try clear hcz21_1
  try clear hcz21_2
  try clear hcz21_3
  try clear hcz21_4
  try clear hcz23_0
  try clear hcz23_1
  try clear hcz23_2
  try clear hcz23_3
  try clear hcz24_0
  try clear hcz24_1
  try clear hcz24_2
  try clear hcz24_3
  try clear hcz24_4
  try clear hcz8_0
  try clear hcz8_1
  try clear hcz8_2
  try clear hcz8_3
  try clear hfz11_0
  try clear hfz11_1
  try clear hfz11_2
  try clear hfz11_3
  try clear hfz14_0
  try clear hfz14_1
  try clear hfz14_2
  try clear hfz14_3
  try clear hfz17_0
  try clear hfz17_1
  try clear hfz17_2
  try clear hfz17_3
  try clear hfz20_0
  try clear hfz20_1
  try clear hfz20_2
  try clear hfz20_3
  try clear hfz21_0
  try clear hfz21_1
  try clear hfz21_2
  try clear hfz21_3
  try clear hfz21_4
  try clear hfz23_0
  try clear hfz23_1
  try clear hfz23_2
  try clear hfz23_3
  try clear hfz24_0
  try clear hfz24_1
  try clear hfz24_2
  try clear hfz24_3
  try clear hfz24_4
  try clear hfz8_0
  try clear hfz8_1
  try clear hfz8_2
  try clear hfz8_3
  obtain ⟨kq, x49_2, rfl, HA, HJ2, BK223, BK224, HB⟩ := hcut
  cases kq with
  | zero => exact absurd HA.out (by simp [tillerref11_Check.j0])
  | succ kj2 =>
   have H := HA.out
   clear HA
   simp only [tillerref11_Check.j0] at H
   by_cases c25 : x49_2 = true
   ·subst c25
    have H1 : (some 4) = some r := by rw [if_pos rfl] at H; exact H
    clear H
    have H := H1
    clear H1
    obtain rfl := Option.some.inj H
    go_wp2
    go_ret
    exact ⟨by first | rfl | (simp [errW_none, errW_some] <;> rfl) | (simp [*, errW_none, errW_some] <;> rfl), by repeat (first | (with_reducible first | exact HB.out | apply below_alloc | apply pw_below_drewN | apply below_drew1 | refine below_set ?_ GE223.out | refine below_set ?_ GE224.out) | exact HB.out)⟩
   ·replace c25 := Bool.eq_false_iff.mpr c25
    subst c25
    have H1 : (tillerref11_Check.l0 kj2 l1_0 (l1_0.length : Int) 0 a0_0 a0_1 a0_2 a0_3 a0_4 l1_0 a1_1 l1_2 l1_3) = some r := by rw [if_neg (show ¬ (false = true) by decide)] at H; exact H
    clear H
    have H := H1
    clear H1
    have H' := Aside0.mk H
    clear H
    have hnb26 := NB224_223.out
    have hnc26 := NB223_224.out
    obtain ⟨hcz27_0, hcz27_1, hcz27_2, hcz27_3, hfz27_0, hfz27_1, hfz27_2, hfz27_3⟩ := cq4 BK224.out
    go_wp2
    go_loopg [53] kj2 (fun kq v53 w' => ∃ (x53_2 : Int), v53 = .int .i64 x53_2 ∧ Aside0 (tillerref11_Check.l0 kq l1_0 (l1_0.length : Int) x53_2 a0_0 a0_1 a0_2 a0_3 a0_4 l1_0 a1_1 l1_2 l1_3 = some r) ∧ Aside0 (kq ≤ kj2) ∧ Aside0 (w'.heap[gb223]? = some (.cells #[.int .i64 a0_0, .int .i64 a0_1, .int .i64 a0_2, .int .i64 a0_3, .int .i64 a0_4] 23 (0, 0))) ∧ Aside0 (w'.heap[gb224]? = some (.cells #[(.slice A1_0 l1_0.length c1_0), .int .i64 a1_1, (.slice A1_2 l1_2.length c1_2), (.slice A1_3 l1_3.length c1_3)] 31 (0, 0))) ∧ Aside0 (Below w.heap.size w w'))
    case atStart => exact ⟨(0), rs, H', ⟨Nat.le_refl _⟩, ⟨by (with_reducible repeat (first | refine blk_drewN ?_ _ | refine blk_drew ?_ | refine blk_alloc ?_ _)); exact BK223.out⟩, ⟨by (with_reducible repeat (first | refine blk_drewN ?_ _ | refine blk_drew ?_ | refine blk_alloc ?_ _)); exact BK224.out⟩, ⟨by repeat (first | (with_reducible first | exact HB.out | apply below_alloc | apply pw_below_drewN | apply below_drew1 | refine below_set ?_ GE223.out | refine below_set ?_ GE224.out) | exact HB.out)⟩⟩
    case round =>
     clear H'
     try clear c1
     try clear c2
     try clear p2
     try clear c6
     try clear c6b0
     try clear p6
     try clear c7
     try clear c9
     try clear c9b0
     try clear c10
     try clear c12
     try clear c12b0
     try clear c12b1
     try clear c13
     try clear c14
     try clear c15
     try clear c15b0
     try clear c16
     try clear c18
     try clear c18b0
     try clear c18b1
     try clear c19
     try clear c22
     try clear c25
     try clear c26
     try clear hcz11_0
     try clear hcz11_1
     try clear hcz11_2
     try clear hcz11_3
     try clear hcz14_0
     try clear hcz14_1
     try clear hcz14_2
     try clear hcz14_3
     try clear hcz17_0
     try clear hcz17_1
     try clear hcz17_2
     try clear hcz17_3
     try clear hcz20_0
     try clear hcz20_1
     try clear hcz20_2
     try clear hcz20_3
     try clear hcz21_0
     try clear hcz21_1
     try clear hcz21_2
     try clear hcz21_3
     try clear hcz21_4
     try clear hcz23_0
     try clear hcz23_1
     try clear hcz23_2
     try clear hcz23_3
     try clear hcz24_0
     try clear hcz24_1
     try clear hcz24_2
     try clear hcz24_3
     try clear hcz24_4
     try clear hcz27_0
     try clear hcz27_1
     try clear hcz27_2
     try clear hcz27_3
     try clear hcz8_0
     try clear hcz8_1
     try clear hcz8_2
     try clear hcz8_3
     try clear hfz11_0
     try clear hfz11_1
     try clear hfz11_2
     try clear hfz11_3
     try clear hfz14_0
     try clear hfz14_1
     try clear hfz14_2
     try clear hfz14_3
     try clear hfz17_0
     try clear hfz17_1
     try clear hfz17_2
     try clear hfz17_3
     try clear hfz20_0
     try clear hfz20_1
     try clear hfz20_2
     try clear hfz20_3
     try clear hfz21_0
     try clear hfz21_1
     try clear hfz21_2
     try clear hfz21_3
     try clear hfz21_4
     try clear hfz23_0
     try clear hfz23_1
     try clear hfz23_2
     try clear hfz23_3
     try clear hfz24_0
     try clear hfz24_1
     try clear hfz24_2
     try clear hfz24_3
     try clear hfz24_4
     try clear hfz27_0
     try clear hfz27_1
     try clear hfz27_2
     try clear hfz27_3
     try clear hfz8_0
     try clear hfz8_1
     try clear hfz8_2
     try clear hfz8_3
     try clear p2
     try clear p6
     obtain ⟨x53_2, rfl, HA, HK2, BK223, BK224, HB⟩ := hrel
     cases gk with
     | zero => exact absurd HA.out (by simp [tillerref11_Check.l0])
     | succ k2 =>
      have H := HA.out
      clear HA
      simp only [tillerref11_Check.l0] at H
      by_cases c28 : x53_2 < (l1_0.length : Int)
      ·rw [if_pos c28] at H
       have c28b0 : decide (x53_2 < (l1_0.length : Int)) = true := decide_eq_true c28
       clear c28
       by_cases c29 : 0 ≤ x53_2
       ·rw [if_pos c29] at H
        have c29b0 : decide (0 ≤ x53_2) = true := decide_eq_true c29
        clear c29
        by_cases c30 : x53_2 < (l1_0.length : Int)
        ·rw [if_pos c30] at H
         have c30b0 : decide (x53_2 < (l1_0.length : Int)) = true := decide_eq_true c30
         clear c30
         by_cases c31 : (rd l1_0 x53_2) < 0
         ·rw [if_pos c31] at H
          have c31b0 : decide ((rd l1_0 x53_2) < 0) = true := decide_eq_true c31
          clear c31
          obtain rfl := Option.some.inj H
          have p225 : 0 ≤ (x53_2 : Int) := of_decide_eq_true asm
          have q225 : x53_2 < (l1_0.length : Int) := of_decide_eq_true asm
          obtain ⟨ad225, e225, hx225_0⟩ := Kd.at_int HR1_0.out x53_2 p225 q225
          cases e225
          (first | replace hx225_0 := (HB.out.cell (World.block_lt_of_cell? w _ hx225_0)).trans hx225_0 | skip)
          replace p225 := eq_true p225
          replace q225 := eq_true q225
          go_wp2
          go_ret
          exact ⟨by first | rfl | (simp [errW_none, errW_some] <;> rfl) | (simp [*, errW_none, errW_some] <;> rfl), by repeat (first | (with_reducible first | exact HB.out | apply below_alloc | apply pw_below_drewN | apply below_drew1 | refine below_set ?_ GE223.out | refine below_set ?_ GE224.out) | exact HB.out)⟩
         ·rw [if_neg c31] at H
          have c31b0 : decide ((rd l1_0 x53_2) < 0) = false := decide_eq_false c31
          clear c31
          by_cases c32 : (rd l1_0 x53_2) ≥ a0_0
          ·rw [if_pos c32] at H
           have c32b0 : decide (a0_0 ≤ (rd l1_0 x53_2)) = true := decide_eq_true c32
           clear c32
           obtain rfl := Option.some.inj H
           have p225 : 0 ≤ (x53_2 : Int) := of_decide_eq_true asm
           have q225 : x53_2 < (l1_0.length : Int) := of_decide_eq_true asm
           obtain ⟨ad225, e225, hx225_0⟩ := Kd.at_int HR1_0.out x53_2 p225 q225
           cases e225
           (first | replace hx225_0 := (HB.out.cell (World.block_lt_of_cell? w _ hx225_0)).trans hx225_0 | skip)
           replace p225 := eq_true p225
           replace q225 := eq_true q225
           have hnb33 := NB223_224.out
           have hnc33 := NB224_223.out
           obtain ⟨hcz34_0, hcz34_1, hcz34_2, hcz34_3, hcz34_4, hfz34_0, hfz34_1, hfz34_2, hfz34_3, hfz34_4⟩ := cq5 BK223.out
           go_wp2
           go_ret
           exact ⟨by first | rfl | (simp [errW_none, errW_some] <;> rfl) | (simp [*, errW_none, errW_some] <;> rfl), by repeat (first | (with_reducible first | exact HB.out | apply below_alloc | apply pw_below_drewN | apply below_drew1 | refine below_set ?_ GE223.out | refine below_set ?_ GE224.out) | exact HB.out)⟩
          ·rw [if_neg c32] at H
           have c32b0 : decide (a0_0 ≤ (rd l1_0 x53_2)) = false := decide_eq_false c32
           clear c32
           have H' := Aside0.mk H
           clear H
           have p225 : 0 ≤ (x53_2 : Int) := of_decide_eq_true asm
           have q225 : x53_2 < (l1_0.length : Int) := of_decide_eq_true asm
           obtain ⟨ad225, e225, hx225_0⟩ := Kd.at_int HR1_0.out x53_2 p225 q225
           cases e225
           (first | replace hx225_0 := (HB.out.cell (World.block_lt_of_cell? w _ hx225_0)).trans hx225_0 | skip)
           replace p225 := eq_true p225
           replace q225 := eq_true q225
           have hnb35 := NB223_224.out
           have hnc35 := NB224_223.out
           obtain ⟨hcz36_0, hcz36_1, hcz36_2, hcz36_3, hcz36_4, hfz36_0, hfz36_1, hfz36_2, hfz36_3, hfz36_4⟩ := cq5 BK223.out
           go_wp2
           go_roundg k2
           case measure => have := HJ2.out; have := HK2.out; omega
           case rel => exact ⟨(wrap64 (x53_2 + 1)), rs, H', ⟨by have := HJ2.out; have := HK2.out; omega⟩, ⟨by (with_reducible repeat (first | refine blk_drewN ?_ _ | refine blk_drew ?_ | refine blk_alloc ?_ _)); exact BK223.out⟩, ⟨by (with_reducible repeat (first | refine blk_drewN ?_ _ | refine blk_drew ?_ | refine blk_alloc ?_ _)); exact BK224.out⟩, ⟨by repeat (first | (with_reducible first | exact HB.out | apply below_alloc | apply pw_below_drewN | apply below_drew1 | refine below_set ?_ GE223.out | refine below_set ?_ GE224.out) | exact HB.out)⟩⟩
        ·rw [if_neg c30] at H
         exact absurd H (by simp)
       ·rw [if_neg c29] at H
        exact absurd H (by simp)
      ·rw [if_neg c28] at H
       have c28b0 : decide (x53_2 < (l1_0.length : Int)) = false := decide_eq_false c28
       clear c28
       replace H := Option.bind_eq_some_iff.mp H
       obtain ⟨t226, A370, H⟩ := H
       replace H : (if t226 = true then ((tillerref11_shaped.f k2 l1_3 (wrap64 ((l1_0.length : Int) - a1_1)) a0_1).bind fun t227 => (if t227 = true then (some 0) else (some 4))) else (some 4)) = some r := H
       have A37 := Aside0.mk A370
       clear A370
       by_cases c38 : t226 = true
       ·subst c38
        have H1 : ((tillerref11_shaped.f k2 l1_3 (wrap64 ((l1_0.length : Int) - a1_1)) a0_1).bind fun t227 => (if t227 = true then (some 0) else (some 4))) = some r := by rw [if_pos rfl] at H; exact H
        clear H
        have H := H1
        clear H1
        replace H := Option.bind_eq_some_iff.mp H
        obtain ⟨t227, A390, H⟩ := H
        replace H : (if t227 = true then (some 0) else (some 4)) = some r := H
        have A39 := Aside0.mk A390
        clear A390
        by_cases c40 : t227 = true
        ·subst c40
         have H1 : (some 0) = some r := by rw [if_pos rfl] at H; exact H
         clear H
         have H := H1
         clear H1
         obtain rfl := Option.some.inj H
         have hnb41 := NB224_223.out
         have hnc41 := NB223_224.out
         obtain ⟨hcz42_0, hcz42_1, hcz42_2, hcz42_3, hfz42_0, hfz42_1, hfz42_2, hfz42_3⟩ := cq4 BK224.out
         obtain ⟨hcz43_0, hcz43_1, hcz43_2, hcz43_3, hcz43_4, hfz43_0, hfz43_1, hfz43_2, hfz43_3, hfz43_4⟩ := cq5 BK223.out
         go_wp2_with (first | ((with_reducible refine gate_callee (f := 39) rfl ?_); refine goesL_ (some 77) rfl rfl Try.func39 (by kernel_rfl) rfl #[.slice A1_2 l1_2.length c1_2, .int .i64 (wrap64 ((l1_0.length : Int) - a1_1)), .int .i64 a0_1] rfl ar ?_; (with_reducible refine (tillerref11_shaped.calls k2 _ _ l1_2 (wrap64 ((l1_0.length : Int) - a1_1)) a0_1 true _ ?side1 ?side2 A37.out).mono ?_); (case side1 => repeat (first | exact (Kd.C_below HR1_2.out HB.out) | (with_reducible refine Kd.C_alloc ?_ _) | (with_reducible refine Kd.C_drewN ?_ _) | (with_reducible refine Kd.C_drew ?_))); (case side2 => exact HC1_2.out); rintro e w' ⟨rfl, ⟨nd, rfl⟩⟩; refine ⟨_, rfl, ?_⟩) | (go_at_call 39; (with_reducible refine (tillerref11_shaped.calls k2 _ _ l1_3 (wrap64 ((l1_0.length : Int) - a1_1)) a0_1 true _ ?side1 ?side2 A39.out).mono ?_); (case side1 => repeat (first | exact (Kd.C_below HR1_3.out bel) | (with_reducible refine Kd.C_alloc ?_ _) | (with_reducible refine Kd.C_drewN ?_ _) | (with_reducible refine Kd.C_drew ?_))); (case side2 => exact HC1_3.out); rintro e w' ⟨rfl, ⟨nd, rfl⟩⟩))
         go_ret
         exact ⟨by first | rfl | (simp [errW_none, errW_some] <;> rfl) | (simp [*, errW_none, errW_some] <;> rfl), by repeat (first | (with_reducible first | exact HB.out | apply below_alloc | apply pw_below_drewN | apply below_drew1 | refine below_set ?_ GE223.out | refine below_set ?_ GE224.out) | exact HB.out)⟩
        ·replace c40 := Bool.eq_false_iff.mpr c40
         subst c40
         have H1 : (some 4) = some r := by rw [if_neg (show ¬ (false = true) by decide)] at H; exact H
         clear H
         have H := H1
         clear H1
         obtain rfl := Option.some.inj H
         have hnb44 := NB224_223.out
         have hnc44 := NB223_224.out
         obtain ⟨hcz45_0, hcz45_1, hcz45_2, hcz45_3, hfz45_0, hfz45_1, hfz45_2, hfz45_3⟩ := cq4 BK224.out
         obtain ⟨hcz46_0, hcz46_1, hcz46_2, hcz46_3, hcz46_4, hfz46_0, hfz46_1, hfz46_2, hfz46_3, hfz46_4⟩ := cq5 BK223.out
         go_wp2_with (first | ((with_reducible refine gate_callee (f := 39) rfl ?_); refine goesL_ (some 77) rfl rfl Try.func39 (by kernel_rfl) rfl #[.slice A1_2 l1_2.length c1_2, .int .i64 (wrap64 ((l1_0.length : Int) - a1_1)), .int .i64 a0_1] rfl ar ?_; (with_reducible refine (tillerref11_shaped.calls k2 _ _ l1_2 (wrap64 ((l1_0.length : Int) - a1_1)) a0_1 true _ ?side1 ?side2 A37.out).mono ?_); (case side1 => repeat (first | exact (Kd.C_below HR1_2.out HB.out) | (with_reducible refine Kd.C_alloc ?_ _) | (with_reducible refine Kd.C_drewN ?_ _) | (with_reducible refine Kd.C_drew ?_))); (case side2 => exact HC1_2.out); rintro e w' ⟨rfl, ⟨nd, rfl⟩⟩; refine ⟨_, rfl, ?_⟩) | (go_at_call 39; (with_reducible refine (tillerref11_shaped.calls k2 _ _ l1_3 (wrap64 ((l1_0.length : Int) - a1_1)) a0_1 false _ ?side1 ?side2 A39.out).mono ?_); (case side1 => repeat (first | exact (Kd.C_below HR1_3.out bel) | (with_reducible refine Kd.C_alloc ?_ _) | (with_reducible refine Kd.C_drewN ?_ _) | (with_reducible refine Kd.C_drew ?_))); (case side2 => exact HC1_3.out); rintro e w' ⟨rfl, ⟨nd, rfl⟩⟩))
         go_ret
         exact ⟨by first | rfl | (simp [errW_none, errW_some] <;> rfl) | (simp [*, errW_none, errW_some] <;> rfl), by repeat (first | (with_reducible first | exact HB.out | apply below_alloc | apply pw_below_drewN | apply below_drew1 | refine below_set ?_ GE223.out | refine below_set ?_ GE224.out) | exact HB.out)⟩
       ·replace c38 := Bool.eq_false_iff.mpr c38
        subst c38
        have H1 : (some 4) = some r := by rw [if_neg (show ¬ (false = true) by decide)] at H; exact H
        clear H
        have H := H1
        clear H1
        obtain rfl := Option.some.inj H
        have hnb47 := NB224_223.out
        have hnc47 := NB223_224.out
        obtain ⟨hcz48_0, hcz48_1, hcz48_2, hcz48_3, hfz48_0, hfz48_1, hfz48_2, hfz48_3⟩ := cq4 BK224.out
        obtain ⟨hcz49_0, hcz49_1, hcz49_2, hcz49_3, hcz49_4, hfz49_0, hfz49_1, hfz49_2, hfz49_3, hfz49_4⟩ := cq5 BK223.out
        go_wp2_with (first | ((with_reducible refine gate_callee (f := 39) rfl ?_); refine goesL_ (some 77) rfl rfl Try.func39 (by kernel_rfl) rfl #[.slice A1_2 l1_2.length c1_2, .int .i64 (wrap64 ((l1_0.length : Int) - a1_1)), .int .i64 a0_1] rfl ar ?_; (with_reducible refine (tillerref11_shaped.calls k2 _ _ l1_2 (wrap64 ((l1_0.length : Int) - a1_1)) a0_1 false _ ?side1 ?side2 A37.out).mono ?_); (case side1 => repeat (first | exact (Kd.C_below HR1_2.out HB.out) | (with_reducible refine Kd.C_alloc ?_ _) | (with_reducible refine Kd.C_drewN ?_ _) | (with_reducible refine Kd.C_drew ?_))); (case side2 => exact HC1_2.out); rintro e w' ⟨rfl, ⟨nd, rfl⟩⟩; refine ⟨_, rfl, ?_⟩))
        go_ret
        exact ⟨by first | rfl | (simp [errW_none, errW_some] <;> rfl) | (simp [*, errW_none, errW_some] <;> rfl), by repeat (first | (with_reducible first | exact HB.out | apply below_alloc | apply pw_below_drewN | apply below_drew1 | refine below_set ?_ GE223.out | refine below_set ?_ GE224.out) | exact HB.out)⟩

/-! ### block_Read: function 16 -/


/-! ### api_Num_67: function 67 -/
def api_Num_67.f (l0 : List Int) : Option (List Int) := if l0.length < 35184372088832 then some l0 else none
set_option maxHeartbeats 8000000 in
set_option maxRecDepth 100000 in
theorem api_Num_67.calls (A0 : Option Addr) (c0 : Nat) (l0 : List Int) (r : List Int) (w : World) (hr0 : Kd.C (Kd.int .i32) w A0 l0.length l0) (hc0 : l0.length ≤ c0) (h : api_Num_67.f l0 = some r) :
  Calls Try.prog 67 #[.slice A0 l0.length c0] w fun e w' => ∃ v0_ : Value, e = .returned (v0_) ∧ Kd.R (Kd.int .i32) 72 w' w.heap.size (fun _ => True) v0_ r ∧ Below w.heap.size w w' := by
 unfold api_Num_67.f at h
 have hu := Try.underlying61
 by_cases c11 : l0.length < 35184372088832
 ·rw [if_pos c11] at h
  obtain rfl := Option.some.inj h
  have HB := Aside0.mk (Below.refl w.heap.size w)
  have LMc11 := Aside0.mk c11
  clear c11 h
  rcases A0 with _ | A
  ·have hn : l0 = [] := by
    by_cases hp : 0 < l0.length
    ·obtain ⟨_, he, _⟩ := hr0.2.2 hp
     cases he
    ·exact List.length_eq_zero_iff.1 (by omega)
   subst hn
   have hrun := Go.Lib.run_eql_slice_nil (P := Try.prog) w 61 72 none 0 c0 0 0 hu
   clear hr0
   go_enter Try.func67, Try.ntmps67
   go_wp2
   go_ret
   exact ⟨_, rfl, Kd.R_nil _ _ _ _ _, HB.out⟩
  ·have hrun := Go.Lib.run_eql_slice_nil (P := Try.prog) w 61 72 (some A) l0.length c0 0 0 hu
   have HR0 := Aside0.mk hr0
   clear hr0
   obtain ⟨y108, hy108⟩ : ∃ y_ : List Int, y_ = (([] : List Int)) := ⟨_, rfl⟩
   have Ny108 := Aside0.mk hy108
   obtain ⟨y111, hy111⟩ : ∃ y_ : List Int, y_ = (y108 ++ l0) := ⟨_, rfl⟩
   have hyl : y111 = l0 := by rw [hy111, hy108, List.nil_append]
   have hlen : y108.length = 0 := by rw [hy108]; rfl
   have LMl := Aside0.mk hlen
   have Ny111 := Aside0.mk hy111
   clear hy111 hy108 hlen
   go_enter Try.func67, Try.ntmps67
   go_wp2_with (first | ((with_reducible refine gate_dst (N := 5) rfl ?_); refine Kd.R_lit (Kd.int .i32) _ 72 ?hg (N := 5) ?hd (xs := ([] : List Int)) (inner := []) (ok := fun _ => True) (okp := fun _ => True) ?hr ?hp (fun _ hk => hk) trivial (Below.refl _ _) (Nat.le_refl _) (by simp) ?_; (case hd => rfl); (case hg => rfl); (case hr => first | (go_simp; done) | (go_simp; rfl)); (case hp => exact (Reps.none _ _)); intro v109 w12 ho13 hb hg_ hnew_; clear hg_ hnew_; (first | rw [← Ny108.out] at ho13 | (simp only [Int.reduceToNat] at ho13; rw [← Ny108.out] at ho13)); have n0_ := Aside0.mk (Kd.R_lower ho13 (below_size bel)); have n1_ := Aside0.mk (below_step bel hb); clear HB; have HO110 := n0_; have HB := n1_; clear n0_ n1_; clear hb ho13) | ((with_reducible refine gate_builtin (b := .append) (xs := #[.tmp 5, .tmp 6]) rfl ?_); at_builtin; refine Kd.R_append_rows (Kd.int .i32) (w0 := w) w.heap.size rfl (.tmp 5) (.tmp 6) 61 72 (.int .i32 0) 4 rfl Try.underlying61 info72 rfl (by decide) (by omega) v109 y108 l0 _ _ _ (fun _ => True) (fun _ => False) rfl rfl ?aO ?aR (fun _ _ h => h) (fun _ h => h.elim) ?aF ?aB ?aS ?aL ?_; (case aR => repeat (first | exact (Kd.C_below HR0.out HB.out) | (with_reducible refine Kd.C_alloc ?_ _) | (with_reducible refine Kd.C_drewN ?_ _) | (with_reducible refine Kd.C_drew ?_))); (case aB => exact bel); (case aF => exact (fun _ _ => trivial)); (case aO => exact (rr HO110.out)); (case aS => exact (below_size bel)); (case aL => have := LMc11.out; have := LMl.out; omega); intro v112 w14 ho hb hg hat; rw [← Ny111.out] at ho; have n0_ := Aside0.mk (hb); have n1_ := Aside0.mk (ho); clear HB; clear HO110; have HB := n0_; have HO113 := n1_; clear n0_ n1_; clear ho hb hg hat))
   go_ret
   rw [hyl] at HO113
   exact ⟨_, by first | rfl | (simp; rfl) | (simp [*]; rfl), by (with_reducible repeat (first | apply Kd.R_alloc | apply Kd.R_drewN | apply Kd.R_drew)); exact HO113.out, by repeat (first | (with_reducible first | exact HB.out | apply below_alloc | apply pw_below_drewN | apply below_drew1) | exact HB.out)⟩
 ·rw [if_neg c11] at h
  cases h


end Go.Proofs.Ytepbebelbcbciaa.Q
