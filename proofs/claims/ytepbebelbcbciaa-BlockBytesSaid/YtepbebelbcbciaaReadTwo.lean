/- block.Read: the page of bytes, or the error. No condition. Its frame is a text of the print, turned by mk_readtwo.py. -/
import Derived.Test.YtepbebelbcbciaaReadOne
import Derived.Test.YtepbebelbcbciaaQx2
import Derived.Test.YtepbebelbcbciaaZWords
namespace Go.Proofs.Ytepbebelbcbciaa.Q
open Go.RowKit Go.Proofs.YtepbebelbcbciaaW.PrintWords Go.Proofs.YtepbebelbcbciaaW.PrintLast Go.Proofs.YtepbebelbcbciaaW.PrintMore
attribute [local go_sem] max2_int min2_int max_two min_two max_three min_three max_four min_four   -- for this text's walks alone
set_option linter.unusedVariables false
set_option linter.unusedSimpArgs false
/-- The bytes of a string, one by one. -/
def pseudo_bytes.f (a0 : ByteArray) : Option (List Int) := some (bytesOf a0)
mutual
def block_Read.l0 : Nat → Int → Int → List Int → Int → Int → Int → Int → Int → Int → Int → ByteArray → List Int → Int → Option (List Int × Int × (List (List (List Int))) × (List (List (List Int))) × Int)
 | 0, _, _, _, _, _, _, _, _, _, _, _, _, _ => none
 | k + 1, x6, x7, x38, x39, x40, x123000, x123001, x123002, x123003, x123004, x125000, x126000, x126001 => if x40 < x39 then (if 0 ≤ x40 then (if x40 < (x38.length : Int) then (if x126000.length < 17592186044416 then (block_Read.l0 k x6 x7 x38 x39 (wrap64 (x40 + 1)) x123000 x123001 x123002 x123003 x123004 x125000 (x126000 ++ [wrap64 (rd x38 x40)]) x126001) else (none)) else (none)) else (none)) else (if 0 ≤ x6 then (if x6 ≤ (x125000.size : Int) then (if ((x125000.extract (x6 : Int).toNat x125000.size).size : Int) = (wrap64 ((wrap64 ((wrap64 (8 * (mx (wrap64 (x6 - x7)) 0))) * (mx x123004 0))) * (mx x123001 0))) then (if x123004 > 4 then (block_Read.j1 k true x123000 x123001 x123002 x123003 x123004 (x125000.extract (x6 : Int).toNat x125000.size) x126000 x126001 (mx (wrap64 (x6 - x7)) 0)) else (block_Read.j1 k (decide (x123001 > 32)) x123000 x123001 x123002 x123003 x123004 (x125000.extract (x6 : Int).toNat x125000.size) x126000 x126001 (mx (wrap64 (x6 - x7)) 0))) else (block_Read.j1 k true x123000 x123001 x123002 x123003 x123004 (x125000.extract (x6 : Int).toNat x125000.size) x126000 x126001 (mx (wrap64 (x6 - x7)) 0))) else (none)) else (none))
def block_Read.j1 : Nat → Bool → Int → Int → Int → Int → Int → ByteArray → List Int → Int → Int → Option (List Int × Int × (List (List (List Int))) × (List (List (List Int))) × Int)
 | 0, _, _, _, _, _, _, _, _, _, _ => none
 | k + 1, x82, x123000, x123001, x123002, x123003, x123004, x125000, x126000, x126001, x134000 => if x82 = true then (some (([] : List Int), 0, ([] : List (List (List Int))), ([] : List (List (List Int))), 6)) else ((block_Read_1.f k x123000 x123001 x123002 x123003 x123004 x134000 x125000).bind fun bt134 => ((block_Read_1.f k x123000 x123001 x123002 x123003 x123004 x134000 bt134.2).bind fun bt138 => ((block_Check.f k x123000 x123001 x123002 x123003 x123004 x126000 x126001 bt134.1 bt138.1).bind fun t142 => (if t142 = 0 then (some (x126000, x126001, bt134.1, bt138.1, 0)) else (some (([] : List Int), 0, ([] : List (List (List Int))), ([] : List (List (List Int))), t142))))))
end
def block_Read.f (k : Nat) (a0_0 : Int) (a0_1 : Int) (a0_2 : Int) (a0_3 : Int) (a0_4 : Int) (a1 : ByteArray) : Option (List Int × Int × (List (List (List Int))) × (List (List (List Int))) × Int) := if (a1.size : Int) < 2 then (some (([] : List Int), 0, ([] : List (List (List Int))), ([] : List (List (List Int))), 11)) else (if 0 < (a1.size : Int) then (if 1 < (a1.size : Int) then (if 2 ≤ (a1.size : Int) then (if ((a1.extract 2 a1.size).size : Int) < (wrap64 (bt a1 0)) then (some (([] : List Int), 0, ([] : List (List (List Int))), ([] : List (List (List Int))), 11)) else (if 0 ≤ (wrap64 (bt a1 0)) then (if (wrap64 (bt a1 0)) ≤ ((a1.extract 2 a1.size).size : Int) then ((pseudo_bytes.f ((a1.extract 2 a1.size).extract 0 ((wrap64 (bt a1 0)) : Int).toNat)).bind fun t126 => (block_Read.l0 k (wrap64 (bt a1 0)) (wrap64 (bt a1 1)) t126 (t126.length : Int) 0 a0_0 a0_1 a0_2 a0_3 a0_4 (a1.extract 2 a1.size) ([] : List Int) (wrap64 (bt a1 1)))) else (none)) else (none))) else (none)) else (none)) else (none))
theorem block_Read.mono_l : ∀ k, (∀ y0 y1 y2 y3 y4 y5 y6 y7 y8 y9 y10 y11 y12, LeO (block_Read.l0 k y0 y1 y2 y3 y4 y5 y6 y7 y8 y9 y10 y11 y12) (block_Read.l0 (k + 1) y0 y1 y2 y3 y4 y5 y6 y7 y8 y9 y10 y11 y12)) ∧ (∀ y0 y1 y2 y3 y4 y5 y6 y7 y8 y9, LeO (block_Read.j1 k y0 y1 y2 y3 y4 y5 y6 y7 y8 y9) (block_Read.j1 (k + 1) y0 y1 y2 y3 y4 y5 y6 y7 y8 y9))
 | 0 => ⟨fun _ _ _ _ _ _ _ _ _ _ _ _ _ r h => by simp [block_Read.l0] at h, fun _ _ _ _ _ _ _ _ _ _ r h => by simp [block_Read.j1] at h⟩
 | k + 1 => by
  obtain ⟨ih0, ih1⟩ := block_Read.mono_l k
  refine ⟨?_, ?_⟩
  ·intro y0 y1 y2 y3 y4 y5 y6 y7 y8 y9 y10 y11 y12
   unfold block_Read.l0
   repeat' first
   | (with_reducible exact ih0 _ _ _ _ _ _ _ _ _ _ _ _ _)
   | (with_reducible exact ih1 _ _ _ _ _ _ _ _ _ _)
   | (with_reducible exact block_Check.mono _ _ _ _ _ _ _ _ _ _)
   | (with_reducible exact block_Read_1.mono _ _ _ _ _ _ _ _)
   | (with_reducible exact LeO.refl _)
   | (with_reducible exact LeO.none _)
   | (with_reducible refine LeO.ite ?_ ?_)
   | (with_reducible refine LeO.bind ?_ (fun _ => ?_))
   | exact ih0 _ _ _ _ _ _ _ _ _ _ _ _ _
   | exact ih1 _ _ _ _ _ _ _ _ _ _
   | exact block_Check.mono _ _ _ _ _ _ _ _ _ _
   | exact block_Read_1.mono _ _ _ _ _ _ _ _
   | exact LeO.none _
   | refine LeO.ite ?_ ?_
   | refine LeO.bind ?_ (fun _ => ?_)
  ·intro y0 y1 y2 y3 y4 y5 y6 y7 y8 y9
   unfold block_Read.j1
   repeat' first
   | (with_reducible exact ih0 _ _ _ _ _ _ _ _ _ _ _ _ _)
   | (with_reducible exact ih1 _ _ _ _ _ _ _ _ _ _)
   | (with_reducible exact block_Check.mono _ _ _ _ _ _ _ _ _ _)
   | (with_reducible exact block_Read_1.mono _ _ _ _ _ _ _ _)
   | (with_reducible exact LeO.refl _)
   | (with_reducible exact LeO.none _)
   | (with_reducible refine LeO.ite ?_ ?_)
   | (with_reducible refine LeO.bind ?_ (fun _ => ?_))
   | exact ih0 _ _ _ _ _ _ _ _ _ _ _ _ _
   | exact ih1 _ _ _ _ _ _ _ _ _ _
   | exact block_Check.mono _ _ _ _ _ _ _ _ _ _
   | exact block_Read_1.mono _ _ _ _ _ _ _ _
   | exact LeO.none _
   | refine LeO.ite ?_ ?_
   | refine LeO.bind ?_ (fun _ => ?_)
theorem block_Read.mono : ∀ a0 a1 a2 a3 a4 a5 k, LeO (block_Read.f k a0 a1 a2 a3 a4 a5) (block_Read.f (k + 1) a0 a1 a2 a3 a4 a5) := by
 intro a0 a1 a2 a3 a4 a5 k
 obtain ⟨ih0, ih1⟩ := block_Read.mono_l k
 unfold block_Read.f
 repeat' first
   | (with_reducible exact ih0 _ _ _ _ _ _ _ _ _ _ _ _ _)
   | (with_reducible exact ih1 _ _ _ _ _ _ _ _ _ _)
   | (with_reducible exact block_Check.mono _ _ _ _ _ _ _ _ _ _)
   | (with_reducible exact block_Read_1.mono _ _ _ _ _ _ _ _)
   | (with_reducible exact LeO.refl _)
   | (with_reducible exact LeO.none _)
   | (with_reducible refine LeO.ite ?_ ?_)
   | (with_reducible refine LeO.bind ?_ (fun _ => ?_))
   | exact ih0 _ _ _ _ _ _ _ _ _ _ _ _ _
   | exact ih1 _ _ _ _ _ _ _ _ _ _
   | exact block_Check.mono _ _ _ _ _ _ _ _ _ _
   | exact block_Read_1.mono _ _ _ _ _ _ _ _
   | exact LeO.none _
   | refine LeO.ite ?_ ?_
   | refine LeO.bind ?_ (fun _ => ?_)
set_option maxHeartbeats 8000000 in
set_option maxRecDepth 100000 in
theorem block_Read.calls (k : Nat) (a0_0 : Int) (a0_1 : Int) (a0_2 : Int) (a0_3 : Int) (a0_4 : Int) (a1 : ByteArray) (r1 : List Int) (r2 : Int) (r3 : List (List (List Int))) (r4 : List (List (List Int))) (r5 : Int) (w : World) (h : block_Read.f k a0_0 a0_1 a0_2 a0_3 a0_4 a1 = some (r1, r2, r3, r4, r5)) :
  Calls Try.prog 16 #[.agg #[.int .i64 a0_0, .int .i64 a0_1, .int .i64 a0_2, .int .i64 a0_3, .int .i64 a0_4], .string a1] w fun e w' => ∃ v0_ v2_ v3_ : Value, e = .returned (.tuple #[.agg #[v0_, .int .i64 r2, v2_, v3_], .int .i64 r5]) ∧ Kd.R (Kd.int .i64) 3 w' w.heap.size (fun _ => True) v0_ r1 ∧ Kd.R (Kd.slice 61 (Kd.slice 72 (Kd.int .i32))) 62 w' w.heap.size (fun k_ => some k_ ≠ (v3_ : Value).ownBlock) v2_ r3 ∧ Kd.R (Kd.slice 61 (Kd.slice 72 (Kd.int .i32))) 62 w' w.heap.size (fun k_ => some k_ ≠ (v2_ : Value).ownBlock) v3_ r4 ∧ Below w.heap.size w w' := by
 have hu23 := Try.underlying23
 have hu29 := Try.underlying29
 have HB := Aside0.mk (Below.refl w.heap.size w)
 have H : (if (a1.size : Int) < 2 then (some (([] : List Int), 0, ([] : List (List (List Int))), ([] : List (List (List Int))), 11)) else (if 0 < (a1.size : Int) then (if 1 < (a1.size : Int) then (if 2 ≤ (a1.size : Int) then (if ((a1.extract 2 a1.size).size : Int) < (wrap64 (bt a1 0)) then (some (([] : List Int), 0, ([] : List (List (List Int))), ([] : List (List (List Int))), 11)) else (if 0 ≤ (wrap64 (bt a1 0)) then (if (wrap64 (bt a1 0)) ≤ ((a1.extract 2 a1.size).size : Int) then ((pseudo_bytes.f ((a1.extract 2 a1.size).extract 0 ((wrap64 (bt a1 0)) : Int).toNat)).bind fun t126 => (block_Read.l0 k (wrap64 (bt a1 0)) (wrap64 (bt a1 1)) t126 (t126.length : Int) 0 a0_0 a0_1 a0_2 a0_3 a0_4 (a1.extract 2 a1.size) ([] : List Int) (wrap64 (bt a1 1)))) else (none)) else (none))) else (none)) else (none)) else (none))) = some (r1, r2, r3, r4, r5) := h
 clear h
 by_cases c3 : (a1.size : Int) < 2
 ·rw [if_pos c3] at H
  have c3b0 : decide ((a1.size : Int) < 2) = true := decide_eq_true c3
  have c3b1 : decide (a1.size < 2) = true := decide_eq_true (by omega)
  clear c3
  simp only [Option.some.injEq, Prod.mk.injEq] at H
  obtain ⟨rfl, rfl, rfl, rfl, rfl⟩ := H
  go_enter Try.func16, Try.ntmps16
  go_wp2_with (first | ((with_reducible refine gate_dst (N := 2) rfl ?_); refine bxe (N := 2) (cs := #[.int .i64 a0_0, .int .i64 a0_1, .int .i64 a0_2, .int .i64 a0_3, .int .i64 a0_4]) (t := 23) ?_; intro gb122 hg w4 hbox hb; have n0_ := Aside0.mk (below_step bel hb); have n1_ := Aside0.mk (hbox); have n2_ := Aside0.mk ((bsz hg : w.heap.size ≤ gb122)); have n3_ := Aside0.mk ((bsz hg : w.heap.size ≤ gb122)); clear HB; have HB := n0_; have BK122 := n1_; have GW122 := n2_; have GE122 := n3_; clear n0_ n1_ n2_ n3_; clear hb hbox hg) | ((with_reducible refine gate_dst (N := 4) rfl ?_); refine bxe (N := 4) (cs := #[.slice none 0 0, .int .i64 0, .slice none 0 0, .slice none 0 0]) (t := 29) ?_; intro gb123 hg w5 hbox hb; have n0_ := Aside0.mk (bkb BK122.out hb); have n1_ := Aside0.mk (below_step bel hb); have n2_ := Aside0.mk (hbox); have n3_ := Aside0.mk ((bsz hg : w.heap.size ≤ gb123)); have n4_ := Aside0.mk ((bsz hg : w.heap.size ≤ gb123)); have n5_ := Aside0.mk ((nel BK122.out hg : gb122 ≠ gb123)); have n6_ := Aside0.mk ((neg_ BK122.out hg : gb123 ≠ gb122)); clear BK122; clear HB; have BK122 := n0_; have HB := n1_; have BK123 := n2_; have GW123 := n3_; have GE123 := n4_; have NB122_123 := n5_; have NB123_122 := n6_; clear n0_ n1_ n2_ n3_ n4_ n5_ n6_; clear hb hbox hg; have hnb6 := NB123_122.out; have hnc6 := NB122_123.out; obtain ⟨hcz7_0, hcz7_1, hcz7_2, hcz7_3, hfz7_0, hfz7_1, hfz7_2, hfz7_3⟩ := cq4 BK123.out))
  repeat (go_quiet (first | ((with_reducible refine gate_dst (N := 2) rfl ?_); refine bxe (N := 2) (cs := #[.int .i64 a0_0, .int .i64 a0_1, .int .i64 a0_2, .int .i64 a0_3, .int .i64 a0_4]) (t := 23) ?_; intro gb122 hg w4 hbox hb; have n0_ := Aside0.mk (below_step bel hb); have n1_ := Aside0.mk (hbox); have n2_ := Aside0.mk ((bsz hg : w.heap.size ≤ gb122)); have n3_ := Aside0.mk ((bsz hg : w.heap.size ≤ gb122)); clear HB; have HB := n0_; have BK122 := n1_; have GW122 := n2_; have GE122 := n3_; clear n0_ n1_ n2_ n3_; clear hb hbox hg) | ((with_reducible refine gate_dst (N := 4) rfl ?_); refine bxe (N := 4) (cs := #[.slice none 0 0, .int .i64 0, .slice none 0 0, .slice none 0 0]) (t := 29) ?_; intro gb123 hg w5 hbox hb; have n0_ := Aside0.mk (bkb BK122.out hb); have n1_ := Aside0.mk (below_step bel hb); have n2_ := Aside0.mk (hbox); have n3_ := Aside0.mk ((bsz hg : w.heap.size ≤ gb123)); have n4_ := Aside0.mk ((bsz hg : w.heap.size ≤ gb123)); have n5_ := Aside0.mk ((nel BK122.out hg : gb122 ≠ gb123)); have n6_ := Aside0.mk ((neg_ BK122.out hg : gb123 ≠ gb122)); clear BK122; clear HB; have BK122 := n0_; have HB := n1_; have BK123 := n2_; have GW123 := n3_; have GE123 := n4_; have NB122_123 := n5_; have NB123_122 := n6_; clear n0_ n1_ n2_ n3_ n4_ n5_ n6_; clear hb hbox hg; have hnb6 := NB123_122.out; have hnc6 := NB122_123.out; obtain ⟨hcz7_0, hcz7_1, hcz7_2, hcz7_3, hfz7_0, hfz7_1, hfz7_2, hfz7_3⟩ := cq4 BK123.out)); try go_wp2_with (first | ((with_reducible refine gate_dst (N := 2) rfl ?_); refine bxe (N := 2) (cs := #[.int .i64 a0_0, .int .i64 a0_1, .int .i64 a0_2, .int .i64 a0_3, .int .i64 a0_4]) (t := 23) ?_; intro gb122 hg w4 hbox hb; have n0_ := Aside0.mk (below_step bel hb); have n1_ := Aside0.mk (hbox); have n2_ := Aside0.mk ((bsz hg : w.heap.size ≤ gb122)); have n3_ := Aside0.mk ((bsz hg : w.heap.size ≤ gb122)); clear HB; have HB := n0_; have BK122 := n1_; have GW122 := n2_; have GE122 := n3_; clear n0_ n1_ n2_ n3_; clear hb hbox hg) | ((with_reducible refine gate_dst (N := 4) rfl ?_); refine bxe (N := 4) (cs := #[.slice none 0 0, .int .i64 0, .slice none 0 0, .slice none 0 0]) (t := 29) ?_; intro gb123 hg w5 hbox hb; have n0_ := Aside0.mk (bkb BK122.out hb); have n1_ := Aside0.mk (below_step bel hb); have n2_ := Aside0.mk (hbox); have n3_ := Aside0.mk ((bsz hg : w.heap.size ≤ gb123)); have n4_ := Aside0.mk ((bsz hg : w.heap.size ≤ gb123)); have n5_ := Aside0.mk ((nel BK122.out hg : gb122 ≠ gb123)); have n6_ := Aside0.mk ((neg_ BK122.out hg : gb123 ≠ gb122)); clear BK122; clear HB; have BK122 := n0_; have HB := n1_; have BK123 := n2_; have GW123 := n3_; have GE123 := n4_; have NB122_123 := n5_; have NB123_122 := n6_; clear n0_ n1_ n2_ n3_ n4_ n5_ n6_; clear hb hbox hg; have hnb6 := NB123_122.out; have hnc6 := NB122_123.out; obtain ⟨hcz7_0, hcz7_1, hcz7_2, hcz7_3, hfz7_0, hfz7_1, hfz7_2, hfz7_3⟩ := cq4 BK123.out)))
  refine bodyPost_ret (results_ct rfl _ _ gb123 29 #[.slice none 0 0, .int .i64 0, .slice none 0 0, .slice none 0 0] (0, 0) _ rfl (bkp BK123.out) Try.underlying29 rfl (by kernel_rfl)) rfl ?_
  exact ⟨_, _, _, by first | rfl | (simp [errW_none, errW_some] <;> rfl) | (simp [*, errW_none, errW_some] <;> rfl), by first | exact Kd.R_nil _ _ _ _ _ | exact Kd.N_nil _ _ _ _ _ | exact Kd.V_nil _ _ _ _ _ | exact Kd.Q_nil _ _ _ _ _ | exact Kd.S_nil _ _ _ _ _, by first | exact Kd.R_nil _ _ _ _ _ | exact Kd.N_nil _ _ _ _ _ | exact Kd.V_nil _ _ _ _ _ | exact Kd.Q_nil _ _ _ _ _ | exact Kd.S_nil _ _ _ _ _, by first | exact Kd.R_nil _ _ _ _ _ | exact Kd.N_nil _ _ _ _ _ | exact Kd.V_nil _ _ _ _ _ | exact Kd.Q_nil _ _ _ _ _ | exact Kd.S_nil _ _ _ _ _, by repeat (first | (with_reducible first | exact HB.out | apply below_alloc | apply pw_below_drewN | apply below_drew1 | refine below_set ?_ GE122.out | refine below_set ?_ GE123.out) | exact HB.out)⟩
 ·rw [if_neg c3] at H
  have c3b0 : decide ((a1.size : Int) < 2) = false := decide_eq_false c3
  have c3b1 : decide (a1.size < 2) = false := decide_eq_false (by omega)
  clear c3
  by_cases c8 : 0 < (a1.size : Int)
  ·rw [if_pos c8] at H
   have c8b0 : decide (0 < (a1.size : Int)) = true := decide_eq_true c8
   have c8b1 : decide (0 < a1.size) = true := decide_eq_true (by omega)
   clear c8
   by_cases c10 : 1 < (a1.size : Int)
   ·rw [if_pos c10] at H
    have c10b0 : decide (1 < (a1.size : Int)) = true := decide_eq_true c10
    have c10b1 : decide (1 < a1.size) = true := decide_eq_true (by omega)
    clear c10
    by_cases c12 : 2 ≤ (a1.size : Int)
    ·rw [if_pos c12] at H
     have c12b0 := eq_true c12
     have c12b1 : decide (2 ≤ (a1.size : Int)) = true := decide_eq_true c12
     clear c12
     by_cases c13 : ((a1.extract 2 a1.size).size : Int) < (wrap64 (bt a1 0))
     ·rw [if_pos c13] at H
      have c13b0 : decide (((a1.extract 2 a1.size).size : Int) < (wrap64 (bt a1 0))) = true := decide_eq_true c13
      (try have c13z0 : decide (((a1.size - 2 : Nat) : Int) < (wrap64 (bt a1 0))) = true := by have h_ := c13b0; simp only [ByteArray.size_extract, Nat.min_self] at h_; exact h_)
      (try have c13y0 : (((a1.size - 2 : Nat) : Int) < (wrap64 (bt a1 0))) = True := eq_true (of_decide_eq_true c13z0))
      clear c13
      simp only [Option.some.injEq, Prod.mk.injEq] at H
      obtain ⟨rfl, rfl, rfl, rfl, rfl⟩ := H
      go_enter Try.func16, Try.ntmps16
      go_wp2_with (first | ((with_reducible refine gate_dst (N := 2) rfl ?_); refine bxe (N := 2) (cs := #[.int .i64 a0_0, .int .i64 a0_1, .int .i64 a0_2, .int .i64 a0_3, .int .i64 a0_4]) (t := 23) ?_; intro gb122 hg w14 hbox hb; have n0_ := Aside0.mk (below_step bel hb); have n1_ := Aside0.mk (hbox); have n2_ := Aside0.mk ((bsz hg : w.heap.size ≤ gb122)); have n3_ := Aside0.mk ((bsz hg : w.heap.size ≤ gb122)); clear HB; have HB := n0_; have BK122 := n1_; have GW122 := n2_; have GE122 := n3_; clear n0_ n1_ n2_ n3_; clear hb hbox hg) | ((with_reducible refine gate_dst (N := 4) rfl ?_); refine bxe (N := 4) (cs := #[.slice none 0 0, .int .i64 0, .slice none 0 0, .slice none 0 0]) (t := 29) ?_; intro gb123 hg w15 hbox hb; have n0_ := Aside0.mk (bkb BK122.out hb); have n1_ := Aside0.mk (below_step bel hb); have n2_ := Aside0.mk (hbox); have n3_ := Aside0.mk ((bsz hg : w.heap.size ≤ gb123)); have n4_ := Aside0.mk ((bsz hg : w.heap.size ≤ gb123)); have n5_ := Aside0.mk ((nel BK122.out hg : gb122 ≠ gb123)); have n6_ := Aside0.mk ((neg_ BK122.out hg : gb123 ≠ gb122)); clear BK122; clear HB; have BK122 := n0_; have HB := n1_; have BK123 := n2_; have GW123 := n3_; have GE123 := n4_; have NB122_123 := n5_; have NB123_122 := n6_; clear n0_ n1_ n2_ n3_ n4_ n5_ n6_; clear hb hbox hg; have p9 : 0 ≤ (0 : Int) := (by omega); have q9 : 0 < a1.size := (by have : (0 : Int) < (a1.size : Int) := of_decide_eq_true asm; omega); have hx9 : ∀ h : 0 < a1.size, ((a1[0]'h).toNat : Int) = bt a1 0 := bt_at a1 0; clear p9; have qi9 : (0 < (a1.size : Int)) = True := eq_true (of_decide_eq_true asm); replace q9 := eq_true q9; have p11 : 0 ≤ (1 : Int) := (by omega); have q11 : 1 < a1.size := (by have : (1 : Int) < (a1.size : Int) := of_decide_eq_true asm; omega); have hx11 : ∀ h : 1 < a1.size, ((a1[1]'h).toNat : Int) = bt a1 1 := bt_at a1 1; clear p11; have qi11 : (1 < (a1.size : Int)) = True := eq_true (of_decide_eq_true asm); replace q11 := eq_true q11) | ((with_reducible refine gate_dst (N := 8) rfl ?_); refine bxe (N := 8) (cs := #[.string (⟨#[]⟩ : ByteArray)]) (t := 9) ?_; intro gb124 hg w16 hbox hb; have n0_ := Aside0.mk (bkb BK122.out hb); have n1_ := Aside0.mk (bkb BK123.out hb); have n2_ := Aside0.mk (below_step bel hb); have n3_ := Aside0.mk (hbox); have n4_ := Aside0.mk ((bsz hg : w.heap.size ≤ gb124)); have n5_ := Aside0.mk ((bsz hg : w.heap.size ≤ gb124)); have n6_ := Aside0.mk ((nel BK122.out hg : gb122 ≠ gb124)); have n7_ := Aside0.mk ((neg_ BK122.out hg : gb124 ≠ gb122)); have n8_ := Aside0.mk ((nel BK123.out hg : gb123 ≠ gb124)); have n9_ := Aside0.mk ((neg_ BK123.out hg : gb124 ≠ gb123)); clear BK122; clear BK123; clear HB; have BK122 := n0_; have BK123 := n1_; have HB := n2_; have BK124 := n3_; have GW124 := n4_; have GE124 := n5_; have NB122_124 := n6_; have NB124_122 := n7_; have NB123_124 := n8_; have NB124_123 := n9_; clear n0_ n1_ n2_ n3_ n4_ n5_ n6_ n7_ n8_ n9_; clear hb hbox hg; have hnb17 := NB124_122.out; have hnc17 := NB122_124.out; have hnb18 := NB124_123.out; have hnc18 := NB123_124.out; have hcz19_0 := cv BK124.out 0 (.string (⟨#[]⟩ : ByteArray)); have hfz19_0 := blk_frozen BK124.out 0; have hnb20 := NB123_122.out; have hnc20 := NB122_123.out; obtain ⟨hcz21_0, hcz21_1, hcz21_2, hcz21_3, hfz21_0, hfz21_1, hfz21_2, hfz21_3⟩ := cq4 BK123.out))
      repeat (go_quiet (first | ((with_reducible refine gate_dst (N := 2) rfl ?_); refine bxe (N := 2) (cs := #[.int .i64 a0_0, .int .i64 a0_1, .int .i64 a0_2, .int .i64 a0_3, .int .i64 a0_4]) (t := 23) ?_; intro gb122 hg w14 hbox hb; have n0_ := Aside0.mk (below_step bel hb); have n1_ := Aside0.mk (hbox); have n2_ := Aside0.mk ((bsz hg : w.heap.size ≤ gb122)); have n3_ := Aside0.mk ((bsz hg : w.heap.size ≤ gb122)); clear HB; have HB := n0_; have BK122 := n1_; have GW122 := n2_; have GE122 := n3_; clear n0_ n1_ n2_ n3_; clear hb hbox hg) | ((with_reducible refine gate_dst (N := 4) rfl ?_); refine bxe (N := 4) (cs := #[.slice none 0 0, .int .i64 0, .slice none 0 0, .slice none 0 0]) (t := 29) ?_; intro gb123 hg w15 hbox hb; have n0_ := Aside0.mk (bkb BK122.out hb); have n1_ := Aside0.mk (below_step bel hb); have n2_ := Aside0.mk (hbox); have n3_ := Aside0.mk ((bsz hg : w.heap.size ≤ gb123)); have n4_ := Aside0.mk ((bsz hg : w.heap.size ≤ gb123)); have n5_ := Aside0.mk ((nel BK122.out hg : gb122 ≠ gb123)); have n6_ := Aside0.mk ((neg_ BK122.out hg : gb123 ≠ gb122)); clear BK122; clear HB; have BK122 := n0_; have HB := n1_; have BK123 := n2_; have GW123 := n3_; have GE123 := n4_; have NB122_123 := n5_; have NB123_122 := n6_; clear n0_ n1_ n2_ n3_ n4_ n5_ n6_; clear hb hbox hg; have p9 : 0 ≤ (0 : Int) := (by omega); have q9 : 0 < a1.size := (by have : (0 : Int) < (a1.size : Int) := of_decide_eq_true asm; omega); have hx9 : ∀ h : 0 < a1.size, ((a1[0]'h).toNat : Int) = bt a1 0 := bt_at a1 0; clear p9; have qi9 : (0 < (a1.size : Int)) = True := eq_true (of_decide_eq_true asm); replace q9 := eq_true q9; have p11 : 0 ≤ (1 : Int) := (by omega); have q11 : 1 < a1.size := (by have : (1 : Int) < (a1.size : Int) := of_decide_eq_true asm; omega); have hx11 : ∀ h : 1 < a1.size, ((a1[1]'h).toNat : Int) = bt a1 1 := bt_at a1 1; clear p11; have qi11 : (1 < (a1.size : Int)) = True := eq_true (of_decide_eq_true asm); replace q11 := eq_true q11) | ((with_reducible refine gate_dst (N := 8) rfl ?_); refine bxe (N := 8) (cs := #[.string (⟨#[]⟩ : ByteArray)]) (t := 9) ?_; intro gb124 hg w16 hbox hb; have n0_ := Aside0.mk (bkb BK122.out hb); have n1_ := Aside0.mk (bkb BK123.out hb); have n2_ := Aside0.mk (below_step bel hb); have n3_ := Aside0.mk (hbox); have n4_ := Aside0.mk ((bsz hg : w.heap.size ≤ gb124)); have n5_ := Aside0.mk ((bsz hg : w.heap.size ≤ gb124)); have n6_ := Aside0.mk ((nel BK122.out hg : gb122 ≠ gb124)); have n7_ := Aside0.mk ((neg_ BK122.out hg : gb124 ≠ gb122)); have n8_ := Aside0.mk ((nel BK123.out hg : gb123 ≠ gb124)); have n9_ := Aside0.mk ((neg_ BK123.out hg : gb124 ≠ gb123)); clear BK122; clear BK123; clear HB; have BK122 := n0_; have BK123 := n1_; have HB := n2_; have BK124 := n3_; have GW124 := n4_; have GE124 := n5_; have NB122_124 := n6_; have NB124_122 := n7_; have NB123_124 := n8_; have NB124_123 := n9_; clear n0_ n1_ n2_ n3_ n4_ n5_ n6_ n7_ n8_ n9_; clear hb hbox hg; have hnb17 := NB124_122.out; have hnc17 := NB122_124.out; have hnb18 := NB124_123.out; have hnc18 := NB123_124.out; have hcz19_0 := cv BK124.out 0 (.string (⟨#[]⟩ : ByteArray)); have hfz19_0 := blk_frozen BK124.out 0; have hnb20 := NB123_122.out; have hnc20 := NB122_123.out; obtain ⟨hcz21_0, hcz21_1, hcz21_2, hcz21_3, hfz21_0, hfz21_1, hfz21_2, hfz21_3⟩ := cq4 BK123.out)); try go_wp2_with (first | ((with_reducible refine gate_dst (N := 2) rfl ?_); refine bxe (N := 2) (cs := #[.int .i64 a0_0, .int .i64 a0_1, .int .i64 a0_2, .int .i64 a0_3, .int .i64 a0_4]) (t := 23) ?_; intro gb122 hg w14 hbox hb; have n0_ := Aside0.mk (below_step bel hb); have n1_ := Aside0.mk (hbox); have n2_ := Aside0.mk ((bsz hg : w.heap.size ≤ gb122)); have n3_ := Aside0.mk ((bsz hg : w.heap.size ≤ gb122)); clear HB; have HB := n0_; have BK122 := n1_; have GW122 := n2_; have GE122 := n3_; clear n0_ n1_ n2_ n3_; clear hb hbox hg) | ((with_reducible refine gate_dst (N := 4) rfl ?_); refine bxe (N := 4) (cs := #[.slice none 0 0, .int .i64 0, .slice none 0 0, .slice none 0 0]) (t := 29) ?_; intro gb123 hg w15 hbox hb; have n0_ := Aside0.mk (bkb BK122.out hb); have n1_ := Aside0.mk (below_step bel hb); have n2_ := Aside0.mk (hbox); have n3_ := Aside0.mk ((bsz hg : w.heap.size ≤ gb123)); have n4_ := Aside0.mk ((bsz hg : w.heap.size ≤ gb123)); have n5_ := Aside0.mk ((nel BK122.out hg : gb122 ≠ gb123)); have n6_ := Aside0.mk ((neg_ BK122.out hg : gb123 ≠ gb122)); clear BK122; clear HB; have BK122 := n0_; have HB := n1_; have BK123 := n2_; have GW123 := n3_; have GE123 := n4_; have NB122_123 := n5_; have NB123_122 := n6_; clear n0_ n1_ n2_ n3_ n4_ n5_ n6_; clear hb hbox hg; have p9 : 0 ≤ (0 : Int) := (by omega); have q9 : 0 < a1.size := (by have : (0 : Int) < (a1.size : Int) := of_decide_eq_true asm; omega); have hx9 : ∀ h : 0 < a1.size, ((a1[0]'h).toNat : Int) = bt a1 0 := bt_at a1 0; clear p9; have qi9 : (0 < (a1.size : Int)) = True := eq_true (of_decide_eq_true asm); replace q9 := eq_true q9; have p11 : 0 ≤ (1 : Int) := (by omega); have q11 : 1 < a1.size := (by have : (1 : Int) < (a1.size : Int) := of_decide_eq_true asm; omega); have hx11 : ∀ h : 1 < a1.size, ((a1[1]'h).toNat : Int) = bt a1 1 := bt_at a1 1; clear p11; have qi11 : (1 < (a1.size : Int)) = True := eq_true (of_decide_eq_true asm); replace q11 := eq_true q11) | ((with_reducible refine gate_dst (N := 8) rfl ?_); refine bxe (N := 8) (cs := #[.string (⟨#[]⟩ : ByteArray)]) (t := 9) ?_; intro gb124 hg w16 hbox hb; have n0_ := Aside0.mk (bkb BK122.out hb); have n1_ := Aside0.mk (bkb BK123.out hb); have n2_ := Aside0.mk (below_step bel hb); have n3_ := Aside0.mk (hbox); have n4_ := Aside0.mk ((bsz hg : w.heap.size ≤ gb124)); have n5_ := Aside0.mk ((bsz hg : w.heap.size ≤ gb124)); have n6_ := Aside0.mk ((nel BK122.out hg : gb122 ≠ gb124)); have n7_ := Aside0.mk ((neg_ BK122.out hg : gb124 ≠ gb122)); have n8_ := Aside0.mk ((nel BK123.out hg : gb123 ≠ gb124)); have n9_ := Aside0.mk ((neg_ BK123.out hg : gb124 ≠ gb123)); clear BK122; clear BK123; clear HB; have BK122 := n0_; have BK123 := n1_; have HB := n2_; have BK124 := n3_; have GW124 := n4_; have GE124 := n5_; have NB122_124 := n6_; have NB124_122 := n7_; have NB123_124 := n8_; have NB124_123 := n9_; clear n0_ n1_ n2_ n3_ n4_ n5_ n6_ n7_ n8_ n9_; clear hb hbox hg; have hnb17 := NB124_122.out; have hnc17 := NB122_124.out; have hnb18 := NB124_123.out; have hnc18 := NB123_124.out; have hcz19_0 := cv BK124.out 0 (.string (⟨#[]⟩ : ByteArray)); have hfz19_0 := blk_frozen BK124.out 0; have hnb20 := NB123_122.out; have hnc20 := NB122_123.out; obtain ⟨hcz21_0, hcz21_1, hcz21_2, hcz21_3, hfz21_0, hfz21_1, hfz21_2, hfz21_3⟩ := cq4 BK123.out)))
      refine bodyPost_ret (results_ct rfl _ _ gb123 29 #[.slice none 0 0, .int .i64 0, .slice none 0 0, .slice none 0 0] (0, 0) _ rfl (bkp BK123.out) Try.underlying29 rfl (by kernel_rfl)) rfl ?_
      exact ⟨_, _, _, by first | rfl | (simp [errW_none, errW_some] <;> rfl) | (simp [*, errW_none, errW_some] <;> rfl), by first | exact Kd.R_nil _ _ _ _ _ | exact Kd.N_nil _ _ _ _ _ | exact Kd.V_nil _ _ _ _ _ | exact Kd.Q_nil _ _ _ _ _ | exact Kd.S_nil _ _ _ _ _, by first | exact Kd.R_nil _ _ _ _ _ | exact Kd.N_nil _ _ _ _ _ | exact Kd.V_nil _ _ _ _ _ | exact Kd.Q_nil _ _ _ _ _ | exact Kd.S_nil _ _ _ _ _, by first | exact Kd.R_nil _ _ _ _ _ | exact Kd.N_nil _ _ _ _ _ | exact Kd.V_nil _ _ _ _ _ | exact Kd.Q_nil _ _ _ _ _ | exact Kd.S_nil _ _ _ _ _, by repeat (first | (with_reducible first | exact HB.out | apply below_alloc | apply pw_below_drewN | apply below_drew1 | refine below_set ?_ GE122.out | refine below_set ?_ GE123.out | refine below_set ?_ GE124.out) | exact HB.out)⟩
     ·rw [if_neg c13] at H
      have c13b0 : decide (((a1.extract 2 a1.size).size : Int) < (wrap64 (bt a1 0))) = false := decide_eq_false c13
      (try have c13z0 : decide (((a1.size - 2 : Nat) : Int) < (wrap64 (bt a1 0))) = false := by have h_ := c13b0; simp only [ByteArray.size_extract, Nat.min_self] at h_; exact h_)
      (try have c13y0 : (((a1.size - 2 : Nat) : Int) < (wrap64 (bt a1 0))) = False := eq_false (of_decide_eq_false c13z0))
      clear c13
      obtain ⟨ji22, hji22⟩ : ∃ j_ : Int, (wrap64 (bt a1 0)) = j_ := ⟨_, rfl⟩
      replace H : (if 0 ≤ (ji22) then (if (ji22) ≤ ((a1.extract 2 a1.size).size : Int) then ((pseudo_bytes.f ((a1.extract 2 a1.size).extract 0 ((ji22) : Int).toNat)).bind fun t126 => (block_Read.l0 k ji22 (wrap64 (bt a1 1)) t126 (t126.length : Int) 0 a0_0 a0_1 a0_2 a0_3 a0_4 (a1.extract 2 a1.size) ([] : List Int) (wrap64 (bt a1 1)))) else (none)) else (none)) = some (r1, r2, r3, r4, r5) := by first | (rw [hji22] at H; exact H) | (simp only [hji22] at H ⊢; exact H)
      (try rw [hji22] at c13b0)
      (try rw [hji22] at c13z0)
      (try rw [hji22] at c13y0)
      have hji22w : (IntKind.i64.wrap (bt a1 0)) = ji22 := (i64_w _).trans hji22
      have HJI := Aside0.mk (show ji22.toNat ≤ 9223372036854775807 by rw [← hji22]; unfold wrap64; omega)
      by_cases c23 : 0 ≤ (ji22)
      ·rw [if_pos c23] at H
       have c23b0 := eq_true c23
       have c23b1 : decide (0 ≤ (ji22)) = true := decide_eq_true c23
       clear c23
       by_cases c24 : (ji22) ≤ ((a1.extract 2 a1.size).size : Int)
       ·rw [if_pos c24] at H
        have c24b0 := eq_true c24
        have c24b1 : decide ((ji22) ≤ ((a1.extract 2 a1.size).size : Int)) = true := decide_eq_true c24
        (try have c24z1 : decide ((ji22) ≤ ((a1.size - 2 : Nat) : Int)) = true := by have h_ := c24b1; simp only [ByteArray.size_extract, Nat.min_self] at h_; exact h_)
        (try have c24y1 : ((ji22) ≤ ((a1.size - 2 : Nat) : Int)) = True := eq_true (of_decide_eq_true c24z1))
        clear c24
        replace H := Option.bind_eq_some_iff.mp H
        obtain ⟨t126, A250, H⟩ := H
        replace H : (block_Read.l0 k ji22 (wrap64 (bt a1 1)) t126 (t126.length : Int) 0 a0_0 a0_1 a0_2 a0_3 a0_4 (a1.extract 2 a1.size) ([] : List Int) (wrap64 (bt a1 1))) = some (r1, r2, r3, r4, r5) := H
        have A25 := Aside0.mk A250
        clear A250
        have H' := Aside0.mk H
        clear H
        go_enter Try.func16, Try.ntmps16
        go_wp2_with (first | ((with_reducible refine gate_dst (N := 2) rfl ?_); refine bxe (N := 2) (cs := #[.int .i64 a0_0, .int .i64 a0_1, .int .i64 a0_2, .int .i64 a0_3, .int .i64 a0_4]) (t := 23) ?_; intro gb122 hg w26 hbox hb; have n0_ := Aside0.mk (below_step bel hb); have n1_ := Aside0.mk (hbox); have n2_ := Aside0.mk ((bsz hg : w.heap.size ≤ gb122)); have n3_ := Aside0.mk ((bsz hg : w.heap.size ≤ gb122)); clear HB; have HB := n0_; have BK122 := n1_; have GW122 := n2_; have GE122 := n3_; clear n0_ n1_ n2_ n3_; clear hb hbox hg) | ((with_reducible refine gate_dst (N := 4) rfl ?_); refine bxe (N := 4) (cs := #[.slice none 0 0, .int .i64 0, .slice none 0 0, .slice none 0 0]) (t := 29) ?_; intro gb123 hg w27 hbox hb; have n0_ := Aside0.mk (bkb BK122.out hb); have n1_ := Aside0.mk (below_step bel hb); have n2_ := Aside0.mk (hbox); have n3_ := Aside0.mk ((bsz hg : w.heap.size ≤ gb123)); have n4_ := Aside0.mk ((bsz hg : w.heap.size ≤ gb123)); have n5_ := Aside0.mk ((nel BK122.out hg : gb122 ≠ gb123)); have n6_ := Aside0.mk ((neg_ BK122.out hg : gb123 ≠ gb122)); clear BK122; clear HB; have BK122 := n0_; have HB := n1_; have BK123 := n2_; have GW123 := n3_; have GE123 := n4_; have NB122_123 := n5_; have NB123_122 := n6_; clear n0_ n1_ n2_ n3_ n4_ n5_ n6_; clear hb hbox hg; have p9 : 0 ≤ (0 : Int) := (by omega); have q9 : 0 < a1.size := (by have : (0 : Int) < (a1.size : Int) := of_decide_eq_true asm; omega); have hx9 : ∀ h : 0 < a1.size, ((a1[0]'h).toNat : Int) = bt a1 0 := bt_at a1 0; clear p9; have qi9 : (0 < (a1.size : Int)) = True := eq_true (of_decide_eq_true asm); replace q9 := eq_true q9; have p11 : 0 ≤ (1 : Int) := (by omega); have q11 : 1 < a1.size := (by have : (1 : Int) < (a1.size : Int) := of_decide_eq_true asm; omega); have hx11 : ∀ h : 1 < a1.size, ((a1[1]'h).toNat : Int) = bt a1 1 := bt_at a1 1; clear p11; have qi11 : (1 < (a1.size : Int)) = True := eq_true (of_decide_eq_true asm); replace q11 := eq_true q11) | ((with_reducible refine gate_dst (N := 8) rfl ?_); refine bxe (N := 8) (cs := #[.string (⟨#[]⟩ : ByteArray)]) (t := 9) ?_; intro gb124 hg w28 hbox hb; have n0_ := Aside0.mk (bkb BK122.out hb); have n1_ := Aside0.mk (bkb BK123.out hb); have n2_ := Aside0.mk (below_step bel hb); have n3_ := Aside0.mk (hbox); have n4_ := Aside0.mk ((bsz hg : w.heap.size ≤ gb124)); have n5_ := Aside0.mk ((bsz hg : w.heap.size ≤ gb124)); have n6_ := Aside0.mk ((nel BK122.out hg : gb122 ≠ gb124)); have n7_ := Aside0.mk ((neg_ BK122.out hg : gb124 ≠ gb122)); have n8_ := Aside0.mk ((nel BK123.out hg : gb123 ≠ gb124)); have n9_ := Aside0.mk ((neg_ BK123.out hg : gb124 ≠ gb123)); clear BK122; clear BK123; clear HB; have BK122 := n0_; have BK123 := n1_; have HB := n2_; have BK124 := n3_; have GW124 := n4_; have GE124 := n5_; have NB122_124 := n6_; have NB124_122 := n7_; have NB123_124 := n8_; have NB124_123 := n9_; clear n0_ n1_ n2_ n3_ n4_ n5_ n6_ n7_ n8_ n9_; clear hb hbox hg; have hnb29 := NB124_122.out; have hnc29 := NB122_124.out; have hnb30 := NB124_123.out; have hnc30 := NB123_124.out; have hcz31_0 := cv BK124.out 0 (.string (⟨#[]⟩ : ByteArray)); have hfz31_0 := blk_frozen BK124.out 0) | ((with_reducible refine gate_dst (N := 9) rfl ?_); refine bxe (N := 9) (cs := #[.slice none 0 0, .int .i64 0, .slice none 0 0, .slice none 0 0]) (t := 29) ?_; intro gb125 hg w32 hbox hb; have n0_ := Aside0.mk (blk_below (g := gb122) (bk BK122.out) hb); have n1_ := Aside0.mk (blk_below (g := gb123) (bk BK123.out) hb); have n2_ := Aside0.mk (blk_below (g := gb124) (o := .cells #[.string (a1.extract 2 a1.size)] 9 (0, 0)) (bkp BK124.out) hb); have n3_ := Aside0.mk (below_step bel hb); have n4_ := Aside0.mk (hbox); have n5_ := Aside0.mk ((bsz hg : w.heap.size ≤ gb125)); have n6_ := Aside0.mk ((bsz hg : w.heap.size ≤ gb125)); have n7_ := Aside0.mk ((by rw [hg]; exact Nat.ne_of_lt (blk_lt (g := gb122) (bk BK122.out)) : gb122 ≠ gb125)); have n8_ := Aside0.mk ((by rw [hg]; exact Nat.ne_of_gt (blk_lt (g := gb122) (bk BK122.out)) : gb125 ≠ gb122)); have n9_ := Aside0.mk ((by rw [hg]; exact Nat.ne_of_lt (blk_lt (g := gb123) (bk BK123.out)) : gb123 ≠ gb125)); have n10_ := Aside0.mk ((by rw [hg]; exact Nat.ne_of_gt (blk_lt (g := gb123) (bk BK123.out)) : gb125 ≠ gb123)); have n11_ := Aside0.mk ((by rw [hg]; exact Nat.ne_of_lt (blk_lt (g := gb124) (o := .cells #[.string (a1.extract 2 a1.size)] 9 (0, 0)) (bkp BK124.out)) : gb124 ≠ gb125)); have n12_ := Aside0.mk ((by rw [hg]; exact Nat.ne_of_gt (blk_lt (g := gb124) (o := .cells #[.string (a1.extract 2 a1.size)] 9 (0, 0)) (bkp BK124.out)) : gb125 ≠ gb124)); clear BK122; clear BK123; clear BK124; clear HB; have BK122 := n0_; have BK123 := n1_; have BK124 := n2_; have HB := n3_; have BK125 := n4_; have GW125 := n5_; have GE125 := n6_; have NB122_125 := n7_; have NB125_122 := n8_; have NB123_125 := n9_; have NB125_123 := n10_; have NB124_125 := n11_; have NB125_124 := n12_; clear n0_ n1_ n2_ n3_ n4_ n5_ n6_ n7_ n8_ n9_ n10_ n11_ n12_; clear hb hbox hg; have hnb33 := NB125_122.out; have hnc33 := NB122_125.out; have hnb34 := NB125_123.out; have hnc34 := NB123_125.out; have hnb35 := NB125_124.out; have hnc35 := NB124_125.out; obtain ⟨hcz36_0, hcz36_1, hcz36_2, hcz36_3, hfz36_0, hfz36_1, hfz36_2, hfz36_3⟩ := cq4 BK125.out; have hcz37_0 := cv BK124.out 0 (.string (a1.extract 2 a1.size)); have hfz37_0 := blk_frozen BK124.out 0) | ((with_reducible refine gate_dst (N := 38) rfl ?_); refine V_bytes ?hgd (N := 38) rfl 9 80 5 (.tmp 37) rfl ((a1.extract 2 a1.size).extract 0 ((ji22) : Int).toNat) ?hx ?hs Try.underlying9 Try.underlying80 Try.underlying5 ?_; (case hgd => rfl); (case hx => rfl); (case hs => rw [ByteArray.size_extract]; have := HJI.out; omega); intro v127 w38 ho0 hb; rw [Option.some.inj (show some (bytesOf _) = some _ from A25.out)] at ho0; have n0_ := Aside0.mk (Kd.V_lower (Kd.V_mono (ok' := fun k_ => k_ ≠ gb122 ∧ k_ ≠ gb123 ∧ k_ ≠ gb124 ∧ k_ ≠ gb125) ho0 (fun k_ hk_ => ⟨(Kd.freshB (g := gb122) (o := .cells #[.int .i64 a0_0, .int .i64 a0_1, .int .i64 a0_2, .int .i64 a0_3, .int .i64 a0_4] 23 (0, 0)) (bk BK122.out) k_ hk_), (Kd.freshB (g := gb123) (o := .cells #[.slice none 0 0, .int .i64 0, .slice none 0 0, .slice none 0 0] 29 (0, 0)) (bk BK123.out) k_ hk_), (Kd.freshB (g := gb124) (o := .cells #[.string (a1.extract 2 a1.size)] 9 (0, 0)) (bk BK124.out) k_ hk_), (Kd.freshB (g := gb125) (o := .cells #[.slice none 0 0, .int .i64 (wrap64 (bt a1 1)), .slice none 0 0, .slice none 0 0] 29 (0, 0)) (bkp BK125.out) k_ hk_)⟩)) (below_size bel)); have n1_ := Aside0.mk (blk_below (g := gb122) (bk BK122.out) hb); have n2_ := Aside0.mk (blk_below (g := gb123) (bk BK123.out) hb); have n3_ := Aside0.mk (blk_below (g := gb124) (bk BK124.out) hb); have n4_ := Aside0.mk (blk_below (g := gb125) (o := .cells #[.slice none 0 0, .int .i64 (wrap64 (bt a1 1)), .slice none 0 0, .slice none 0 0] 29 (0, 0)) (bkp BK125.out) hb); have n5_ := Aside0.mk (below_step bel hb); clear BK122; clear BK123; clear BK124; clear BK125; clear HB; have HO128 := n0_; have BK122 := n1_; have BK123 := n2_; have BK124 := n3_; have BK125 := n4_; have HB := n5_; clear n0_ n1_ n2_ n3_ n4_ n5_; (try clear hb); (try clear hb2); (try clear hk); (try clear hi); (try clear ho0); obtain ⟨Ao39, co39, eo39⟩ := Kd.V_slice HO128.out; subst eo39))
        repeat (go_quiet (first | ((with_reducible refine gate_dst (N := 2) rfl ?_); refine bxe (N := 2) (cs := #[.int .i64 a0_0, .int .i64 a0_1, .int .i64 a0_2, .int .i64 a0_3, .int .i64 a0_4]) (t := 23) ?_; intro gb122 hg w26 hbox hb; have n0_ := Aside0.mk (below_step bel hb); have n1_ := Aside0.mk (hbox); have n2_ := Aside0.mk ((bsz hg : w.heap.size ≤ gb122)); have n3_ := Aside0.mk ((bsz hg : w.heap.size ≤ gb122)); clear HB; have HB := n0_; have BK122 := n1_; have GW122 := n2_; have GE122 := n3_; clear n0_ n1_ n2_ n3_; clear hb hbox hg) | ((with_reducible refine gate_dst (N := 4) rfl ?_); refine bxe (N := 4) (cs := #[.slice none 0 0, .int .i64 0, .slice none 0 0, .slice none 0 0]) (t := 29) ?_; intro gb123 hg w27 hbox hb; have n0_ := Aside0.mk (bkb BK122.out hb); have n1_ := Aside0.mk (below_step bel hb); have n2_ := Aside0.mk (hbox); have n3_ := Aside0.mk ((bsz hg : w.heap.size ≤ gb123)); have n4_ := Aside0.mk ((bsz hg : w.heap.size ≤ gb123)); have n5_ := Aside0.mk ((nel BK122.out hg : gb122 ≠ gb123)); have n6_ := Aside0.mk ((neg_ BK122.out hg : gb123 ≠ gb122)); clear BK122; clear HB; have BK122 := n0_; have HB := n1_; have BK123 := n2_; have GW123 := n3_; have GE123 := n4_; have NB122_123 := n5_; have NB123_122 := n6_; clear n0_ n1_ n2_ n3_ n4_ n5_ n6_; clear hb hbox hg; have p9 : 0 ≤ (0 : Int) := (by omega); have q9 : 0 < a1.size := (by have : (0 : Int) < (a1.size : Int) := of_decide_eq_true asm; omega); have hx9 : ∀ h : 0 < a1.size, ((a1[0]'h).toNat : Int) = bt a1 0 := bt_at a1 0; clear p9; have qi9 : (0 < (a1.size : Int)) = True := eq_true (of_decide_eq_true asm); replace q9 := eq_true q9; have p11 : 0 ≤ (1 : Int) := (by omega); have q11 : 1 < a1.size := (by have : (1 : Int) < (a1.size : Int) := of_decide_eq_true asm; omega); have hx11 : ∀ h : 1 < a1.size, ((a1[1]'h).toNat : Int) = bt a1 1 := bt_at a1 1; clear p11; have qi11 : (1 < (a1.size : Int)) = True := eq_true (of_decide_eq_true asm); replace q11 := eq_true q11) | ((with_reducible refine gate_dst (N := 8) rfl ?_); refine bxe (N := 8) (cs := #[.string (⟨#[]⟩ : ByteArray)]) (t := 9) ?_; intro gb124 hg w28 hbox hb; have n0_ := Aside0.mk (bkb BK122.out hb); have n1_ := Aside0.mk (bkb BK123.out hb); have n2_ := Aside0.mk (below_step bel hb); have n3_ := Aside0.mk (hbox); have n4_ := Aside0.mk ((bsz hg : w.heap.size ≤ gb124)); have n5_ := Aside0.mk ((bsz hg : w.heap.size ≤ gb124)); have n6_ := Aside0.mk ((nel BK122.out hg : gb122 ≠ gb124)); have n7_ := Aside0.mk ((neg_ BK122.out hg : gb124 ≠ gb122)); have n8_ := Aside0.mk ((nel BK123.out hg : gb123 ≠ gb124)); have n9_ := Aside0.mk ((neg_ BK123.out hg : gb124 ≠ gb123)); clear BK122; clear BK123; clear HB; have BK122 := n0_; have BK123 := n1_; have HB := n2_; have BK124 := n3_; have GW124 := n4_; have GE124 := n5_; have NB122_124 := n6_; have NB124_122 := n7_; have NB123_124 := n8_; have NB124_123 := n9_; clear n0_ n1_ n2_ n3_ n4_ n5_ n6_ n7_ n8_ n9_; clear hb hbox hg; have hnb29 := NB124_122.out; have hnc29 := NB122_124.out; have hnb30 := NB124_123.out; have hnc30 := NB123_124.out; have hcz31_0 := cv BK124.out 0 (.string (⟨#[]⟩ : ByteArray)); have hfz31_0 := blk_frozen BK124.out 0) | ((with_reducible refine gate_dst (N := 9) rfl ?_); refine bxe (N := 9) (cs := #[.slice none 0 0, .int .i64 0, .slice none 0 0, .slice none 0 0]) (t := 29) ?_; intro gb125 hg w32 hbox hb; have n0_ := Aside0.mk (blk_below (g := gb122) (bk BK122.out) hb); have n1_ := Aside0.mk (blk_below (g := gb123) (bk BK123.out) hb); have n2_ := Aside0.mk (blk_below (g := gb124) (o := .cells #[.string (a1.extract 2 a1.size)] 9 (0, 0)) (bkp BK124.out) hb); have n3_ := Aside0.mk (below_step bel hb); have n4_ := Aside0.mk (hbox); have n5_ := Aside0.mk ((bsz hg : w.heap.size ≤ gb125)); have n6_ := Aside0.mk ((bsz hg : w.heap.size ≤ gb125)); have n7_ := Aside0.mk ((by rw [hg]; exact Nat.ne_of_lt (blk_lt (g := gb122) (bk BK122.out)) : gb122 ≠ gb125)); have n8_ := Aside0.mk ((by rw [hg]; exact Nat.ne_of_gt (blk_lt (g := gb122) (bk BK122.out)) : gb125 ≠ gb122)); have n9_ := Aside0.mk ((by rw [hg]; exact Nat.ne_of_lt (blk_lt (g := gb123) (bk BK123.out)) : gb123 ≠ gb125)); have n10_ := Aside0.mk ((by rw [hg]; exact Nat.ne_of_gt (blk_lt (g := gb123) (bk BK123.out)) : gb125 ≠ gb123)); have n11_ := Aside0.mk ((by rw [hg]; exact Nat.ne_of_lt (blk_lt (g := gb124) (o := .cells #[.string (a1.extract 2 a1.size)] 9 (0, 0)) (bkp BK124.out)) : gb124 ≠ gb125)); have n12_ := Aside0.mk ((by rw [hg]; exact Nat.ne_of_gt (blk_lt (g := gb124) (o := .cells #[.string (a1.extract 2 a1.size)] 9 (0, 0)) (bkp BK124.out)) : gb125 ≠ gb124)); clear BK122; clear BK123; clear BK124; clear HB; have BK122 := n0_; have BK123 := n1_; have BK124 := n2_; have HB := n3_; have BK125 := n4_; have GW125 := n5_; have GE125 := n6_; have NB122_125 := n7_; have NB125_122 := n8_; have NB123_125 := n9_; have NB125_123 := n10_; have NB124_125 := n11_; have NB125_124 := n12_; clear n0_ n1_ n2_ n3_ n4_ n5_ n6_ n7_ n8_ n9_ n10_ n11_ n12_; clear hb hbox hg; have hnb33 := NB125_122.out; have hnc33 := NB122_125.out; have hnb34 := NB125_123.out; have hnc34 := NB123_125.out; have hnb35 := NB125_124.out; have hnc35 := NB124_125.out; obtain ⟨hcz36_0, hcz36_1, hcz36_2, hcz36_3, hfz36_0, hfz36_1, hfz36_2, hfz36_3⟩ := cq4 BK125.out; have hcz37_0 := cv BK124.out 0 (.string (a1.extract 2 a1.size)); have hfz37_0 := blk_frozen BK124.out 0) | ((with_reducible refine gate_dst (N := 38) rfl ?_); refine V_bytes ?hgd (N := 38) rfl 9 80 5 (.tmp 37) rfl ((a1.extract 2 a1.size).extract 0 ((ji22) : Int).toNat) ?hx ?hs Try.underlying9 Try.underlying80 Try.underlying5 ?_; (case hgd => rfl); (case hx => rfl); (case hs => rw [ByteArray.size_extract]; have := HJI.out; omega); intro v127 w38 ho0 hb; rw [Option.some.inj (show some (bytesOf _) = some _ from A25.out)] at ho0; have n0_ := Aside0.mk (Kd.V_lower (Kd.V_mono (ok' := fun k_ => k_ ≠ gb122 ∧ k_ ≠ gb123 ∧ k_ ≠ gb124 ∧ k_ ≠ gb125) ho0 (fun k_ hk_ => ⟨(Kd.freshB (g := gb122) (o := .cells #[.int .i64 a0_0, .int .i64 a0_1, .int .i64 a0_2, .int .i64 a0_3, .int .i64 a0_4] 23 (0, 0)) (bk BK122.out) k_ hk_), (Kd.freshB (g := gb123) (o := .cells #[.slice none 0 0, .int .i64 0, .slice none 0 0, .slice none 0 0] 29 (0, 0)) (bk BK123.out) k_ hk_), (Kd.freshB (g := gb124) (o := .cells #[.string (a1.extract 2 a1.size)] 9 (0, 0)) (bk BK124.out) k_ hk_), (Kd.freshB (g := gb125) (o := .cells #[.slice none 0 0, .int .i64 (wrap64 (bt a1 1)), .slice none 0 0, .slice none 0 0] 29 (0, 0)) (bkp BK125.out) k_ hk_)⟩)) (below_size bel)); have n1_ := Aside0.mk (blk_below (g := gb122) (bk BK122.out) hb); have n2_ := Aside0.mk (blk_below (g := gb123) (bk BK123.out) hb); have n3_ := Aside0.mk (blk_below (g := gb124) (bk BK124.out) hb); have n4_ := Aside0.mk (blk_below (g := gb125) (o := .cells #[.slice none 0 0, .int .i64 (wrap64 (bt a1 1)), .slice none 0 0, .slice none 0 0] 29 (0, 0)) (bkp BK125.out) hb); have n5_ := Aside0.mk (below_step bel hb); clear BK122; clear BK123; clear BK124; clear BK125; clear HB; have HO128 := n0_; have BK122 := n1_; have BK123 := n2_; have BK124 := n3_; have BK125 := n4_; have HB := n5_; clear n0_ n1_ n2_ n3_ n4_ n5_; (try clear hb); (try clear hb2); (try clear hk); (try clear hi); (try clear ho0); obtain ⟨Ao39, co39, eo39⟩ := Kd.V_slice HO128.out; subst eo39)); try go_wp2_with (first | ((with_reducible refine gate_dst (N := 2) rfl ?_); refine bxe (N := 2) (cs := #[.int .i64 a0_0, .int .i64 a0_1, .int .i64 a0_2, .int .i64 a0_3, .int .i64 a0_4]) (t := 23) ?_; intro gb122 hg w26 hbox hb; have n0_ := Aside0.mk (below_step bel hb); have n1_ := Aside0.mk (hbox); have n2_ := Aside0.mk ((bsz hg : w.heap.size ≤ gb122)); have n3_ := Aside0.mk ((bsz hg : w.heap.size ≤ gb122)); clear HB; have HB := n0_; have BK122 := n1_; have GW122 := n2_; have GE122 := n3_; clear n0_ n1_ n2_ n3_; clear hb hbox hg) | ((with_reducible refine gate_dst (N := 4) rfl ?_); refine bxe (N := 4) (cs := #[.slice none 0 0, .int .i64 0, .slice none 0 0, .slice none 0 0]) (t := 29) ?_; intro gb123 hg w27 hbox hb; have n0_ := Aside0.mk (bkb BK122.out hb); have n1_ := Aside0.mk (below_step bel hb); have n2_ := Aside0.mk (hbox); have n3_ := Aside0.mk ((bsz hg : w.heap.size ≤ gb123)); have n4_ := Aside0.mk ((bsz hg : w.heap.size ≤ gb123)); have n5_ := Aside0.mk ((nel BK122.out hg : gb122 ≠ gb123)); have n6_ := Aside0.mk ((neg_ BK122.out hg : gb123 ≠ gb122)); clear BK122; clear HB; have BK122 := n0_; have HB := n1_; have BK123 := n2_; have GW123 := n3_; have GE123 := n4_; have NB122_123 := n5_; have NB123_122 := n6_; clear n0_ n1_ n2_ n3_ n4_ n5_ n6_; clear hb hbox hg; have p9 : 0 ≤ (0 : Int) := (by omega); have q9 : 0 < a1.size := (by have : (0 : Int) < (a1.size : Int) := of_decide_eq_true asm; omega); have hx9 : ∀ h : 0 < a1.size, ((a1[0]'h).toNat : Int) = bt a1 0 := bt_at a1 0; clear p9; have qi9 : (0 < (a1.size : Int)) = True := eq_true (of_decide_eq_true asm); replace q9 := eq_true q9; have p11 : 0 ≤ (1 : Int) := (by omega); have q11 : 1 < a1.size := (by have : (1 : Int) < (a1.size : Int) := of_decide_eq_true asm; omega); have hx11 : ∀ h : 1 < a1.size, ((a1[1]'h).toNat : Int) = bt a1 1 := bt_at a1 1; clear p11; have qi11 : (1 < (a1.size : Int)) = True := eq_true (of_decide_eq_true asm); replace q11 := eq_true q11) | ((with_reducible refine gate_dst (N := 8) rfl ?_); refine bxe (N := 8) (cs := #[.string (⟨#[]⟩ : ByteArray)]) (t := 9) ?_; intro gb124 hg w28 hbox hb; have n0_ := Aside0.mk (bkb BK122.out hb); have n1_ := Aside0.mk (bkb BK123.out hb); have n2_ := Aside0.mk (below_step bel hb); have n3_ := Aside0.mk (hbox); have n4_ := Aside0.mk ((bsz hg : w.heap.size ≤ gb124)); have n5_ := Aside0.mk ((bsz hg : w.heap.size ≤ gb124)); have n6_ := Aside0.mk ((nel BK122.out hg : gb122 ≠ gb124)); have n7_ := Aside0.mk ((neg_ BK122.out hg : gb124 ≠ gb122)); have n8_ := Aside0.mk ((nel BK123.out hg : gb123 ≠ gb124)); have n9_ := Aside0.mk ((neg_ BK123.out hg : gb124 ≠ gb123)); clear BK122; clear BK123; clear HB; have BK122 := n0_; have BK123 := n1_; have HB := n2_; have BK124 := n3_; have GW124 := n4_; have GE124 := n5_; have NB122_124 := n6_; have NB124_122 := n7_; have NB123_124 := n8_; have NB124_123 := n9_; clear n0_ n1_ n2_ n3_ n4_ n5_ n6_ n7_ n8_ n9_; clear hb hbox hg; have hnb29 := NB124_122.out; have hnc29 := NB122_124.out; have hnb30 := NB124_123.out; have hnc30 := NB123_124.out; have hcz31_0 := cv BK124.out 0 (.string (⟨#[]⟩ : ByteArray)); have hfz31_0 := blk_frozen BK124.out 0) | ((with_reducible refine gate_dst (N := 9) rfl ?_); refine bxe (N := 9) (cs := #[.slice none 0 0, .int .i64 0, .slice none 0 0, .slice none 0 0]) (t := 29) ?_; intro gb125 hg w32 hbox hb; have n0_ := Aside0.mk (blk_below (g := gb122) (bk BK122.out) hb); have n1_ := Aside0.mk (blk_below (g := gb123) (bk BK123.out) hb); have n2_ := Aside0.mk (blk_below (g := gb124) (o := .cells #[.string (a1.extract 2 a1.size)] 9 (0, 0)) (bkp BK124.out) hb); have n3_ := Aside0.mk (below_step bel hb); have n4_ := Aside0.mk (hbox); have n5_ := Aside0.mk ((bsz hg : w.heap.size ≤ gb125)); have n6_ := Aside0.mk ((bsz hg : w.heap.size ≤ gb125)); have n7_ := Aside0.mk ((by rw [hg]; exact Nat.ne_of_lt (blk_lt (g := gb122) (bk BK122.out)) : gb122 ≠ gb125)); have n8_ := Aside0.mk ((by rw [hg]; exact Nat.ne_of_gt (blk_lt (g := gb122) (bk BK122.out)) : gb125 ≠ gb122)); have n9_ := Aside0.mk ((by rw [hg]; exact Nat.ne_of_lt (blk_lt (g := gb123) (bk BK123.out)) : gb123 ≠ gb125)); have n10_ := Aside0.mk ((by rw [hg]; exact Nat.ne_of_gt (blk_lt (g := gb123) (bk BK123.out)) : gb125 ≠ gb123)); have n11_ := Aside0.mk ((by rw [hg]; exact Nat.ne_of_lt (blk_lt (g := gb124) (o := .cells #[.string (a1.extract 2 a1.size)] 9 (0, 0)) (bkp BK124.out)) : gb124 ≠ gb125)); have n12_ := Aside0.mk ((by rw [hg]; exact Nat.ne_of_gt (blk_lt (g := gb124) (o := .cells #[.string (a1.extract 2 a1.size)] 9 (0, 0)) (bkp BK124.out)) : gb125 ≠ gb124)); clear BK122; clear BK123; clear BK124; clear HB; have BK122 := n0_; have BK123 := n1_; have BK124 := n2_; have HB := n3_; have BK125 := n4_; have GW125 := n5_; have GE125 := n6_; have NB122_125 := n7_; have NB125_122 := n8_; have NB123_125 := n9_; have NB125_123 := n10_; have NB124_125 := n11_; have NB125_124 := n12_; clear n0_ n1_ n2_ n3_ n4_ n5_ n6_ n7_ n8_ n9_ n10_ n11_ n12_; clear hb hbox hg; have hnb33 := NB125_122.out; have hnc33 := NB122_125.out; have hnb34 := NB125_123.out; have hnc34 := NB123_125.out; have hnb35 := NB125_124.out; have hnc35 := NB124_125.out; obtain ⟨hcz36_0, hcz36_1, hcz36_2, hcz36_3, hfz36_0, hfz36_1, hfz36_2, hfz36_3⟩ := cq4 BK125.out; have hcz37_0 := cv BK124.out 0 (.string (a1.extract 2 a1.size)); have hfz37_0 := blk_frozen BK124.out 0) | ((with_reducible refine gate_dst (N := 38) rfl ?_); refine V_bytes ?hgd (N := 38) rfl 9 80 5 (.tmp 37) rfl ((a1.extract 2 a1.size).extract 0 ((ji22) : Int).toNat) ?hx ?hs Try.underlying9 Try.underlying80 Try.underlying5 ?_; (case hgd => rfl); (case hx => rfl); (case hs => rw [ByteArray.size_extract]; have := HJI.out; omega); intro v127 w38 ho0 hb; rw [Option.some.inj (show some (bytesOf _) = some _ from A25.out)] at ho0; have n0_ := Aside0.mk (Kd.V_lower (Kd.V_mono (ok' := fun k_ => k_ ≠ gb122 ∧ k_ ≠ gb123 ∧ k_ ≠ gb124 ∧ k_ ≠ gb125) ho0 (fun k_ hk_ => ⟨(Kd.freshB (g := gb122) (o := .cells #[.int .i64 a0_0, .int .i64 a0_1, .int .i64 a0_2, .int .i64 a0_3, .int .i64 a0_4] 23 (0, 0)) (bk BK122.out) k_ hk_), (Kd.freshB (g := gb123) (o := .cells #[.slice none 0 0, .int .i64 0, .slice none 0 0, .slice none 0 0] 29 (0, 0)) (bk BK123.out) k_ hk_), (Kd.freshB (g := gb124) (o := .cells #[.string (a1.extract 2 a1.size)] 9 (0, 0)) (bk BK124.out) k_ hk_), (Kd.freshB (g := gb125) (o := .cells #[.slice none 0 0, .int .i64 (wrap64 (bt a1 1)), .slice none 0 0, .slice none 0 0] 29 (0, 0)) (bkp BK125.out) k_ hk_)⟩)) (below_size bel)); have n1_ := Aside0.mk (blk_below (g := gb122) (bk BK122.out) hb); have n2_ := Aside0.mk (blk_below (g := gb123) (bk BK123.out) hb); have n3_ := Aside0.mk (blk_below (g := gb124) (bk BK124.out) hb); have n4_ := Aside0.mk (blk_below (g := gb125) (o := .cells #[.slice none 0 0, .int .i64 (wrap64 (bt a1 1)), .slice none 0 0, .slice none 0 0] 29 (0, 0)) (bkp BK125.out) hb); have n5_ := Aside0.mk (below_step bel hb); clear BK122; clear BK123; clear BK124; clear BK125; clear HB; have HO128 := n0_; have BK122 := n1_; have BK123 := n2_; have BK124 := n3_; have BK125 := n4_; have HB := n5_; clear n0_ n1_ n2_ n3_ n4_ n5_; (try clear hb); (try clear hb2); (try clear hk); (try clear hi); (try clear ho0); obtain ⟨Ao39, co39, eo39⟩ := Kd.V_slice HO128.out; subst eo39)))
        generalize a1.extract 2 a1.size = s2_ at *
        go_loopg [40] k (fun kq v40 w' => ∃ (x40_1 : Int) (x126000_1 : List Int) (u126000 : Value), v40 = .int .i64 x40_1 ∧ Aside0 (block_Read.l0 kq ji22 (wrap64 (bt a1 1)) t126 (t126.length : Int) x40_1 a0_0 a0_1 a0_2 a0_3 a0_4 s2_ x126000_1 (wrap64 (bt a1 1)) = some (r1, r2, r3, r4, r5)) ∧ Aside0 (kq ≤ k) ∧ Aside0 (Kd.V (Kd.int .u8) 5 w' w.heap.size (fun k_ => some k_ ≠ (u126000 : Value).ownBlock ∧ k_ ≠ gb122 ∧ k_ ≠ gb123 ∧ k_ ≠ gb124 ∧ k_ ≠ gb125) (.slice Ao39 t126.length co39) t126) ∧ Aside0 (Kd.R (Kd.int .i64) 3 w' w.heap.size (fun _ => True) u126000 x126000_1) ∧ Aside0 (w'.heap[gb122]? = some (.cells #[.int .i64 a0_0, .int .i64 a0_1, .int .i64 a0_2, .int .i64 a0_3, .int .i64 a0_4] 23 (0, 0))) ∧ Aside0 (w'.heap[gb123]? = some (.cells #[(.slice none 0 0), .int .i64 0, (.slice none 0 0), (.slice none 0 0)] 29 (0, 0))) ∧ Aside0 (w'.heap[gb124]? = some (.cells #[.string s2_] 9 (0, 0))) ∧ Aside0 (w'.heap[gb125]? = some (.cells #[u126000, .int .i64 (wrap64 (bt a1 1)), (.slice none 0 0), (.slice none 0 0)] 29 (0, 0))) ∧ Aside0 (Below w.heap.size w w'))
        case atStart => exact ⟨(0), (([] : List Int)), (.slice none 0 0), rs, H', ⟨Nat.le_refl _⟩, ⟨by (with_reducible repeat (first | apply Kd.V_alloc | apply Kd.V_drewN | apply Kd.V_drew)); exact Kd.V_mono HO128.out (fun _ hk => ⟨(by simp [Value.ownBlock]), ⟨hk.1, ⟨hk.2.1, ⟨hk.2.2.1, hk.2.2.2⟩⟩⟩⟩)⟩, ⟨by first | exact Kd.R_nil _ _ _ _ _ | exact Kd.N_nil _ _ _ _ _ | exact Kd.V_nil _ _ _ _ _ | exact Kd.Q_nil _ _ _ _ _ | exact Kd.S_nil _ _ _ _ _⟩, ⟨by (with_reducible repeat (first | refine blk_drewN ?_ _ | refine blk_drew ?_ | refine blk_alloc ?_ _)); exact BK122.out⟩, ⟨by (with_reducible repeat (first | refine blk_drewN ?_ _ | refine blk_drew ?_ | refine blk_alloc ?_ _)); exact BK123.out⟩, ⟨by (with_reducible repeat (first | refine blk_drewN ?_ _ | refine blk_drew ?_ | refine blk_alloc ?_ _)); exact BK124.out⟩, ⟨by (with_reducible repeat (first | refine blk_drewN ?_ _ | refine blk_drew ?_ | refine blk_alloc ?_ _)); exact BK125.out⟩, ⟨by repeat (first | (with_reducible first | exact HB.out | apply below_alloc | apply pw_below_drewN | apply below_drew1 | refine below_set ?_ GE122.out | refine below_set ?_ GE123.out | refine below_set ?_ GE124.out | refine below_set ?_ GE125.out) | exact HB.out)⟩⟩
        case round =>
         clear H'
         try clear c1
         try clear p1
         try clear q1
         try clear hx1
         try clear qi1
         try clear c2
         try clear p2
         try clear c3
         try clear c3b0
         try clear c3b1
         try clear c6
         try clear p6
         try clear c8
         try clear c8b0
         try clear c8b1
         try clear p9
         try clear q9
         try clear hx9
         try clear qi9
         try clear c10
         try clear c10b0
         try clear c10b1
         try clear p11
         try clear q11
         try clear hx11
         try clear qi11
         try clear c12
         try clear c12b0
         try clear c12b1
         try clear c13
         try clear c13b0
         try clear c16
         try clear c17
         try clear c18
         try clear c20
         try clear c23
         try clear c23b0
         try clear c23b1
         try clear c24
         try clear c24b0
         try clear c24b1
         try clear c29
         try clear c30
         try clear c33
         try clear c34
         try clear c35
         try clear hcz19_0
         try clear hcz21_0
         try clear hcz21_1
         try clear hcz21_2
         try clear hcz21_3
         try clear hcz31_0
         try clear hcz36_0
         try clear hcz36_1
         try clear hcz36_2
         try clear hcz36_3
         try clear hcz37_0
         try clear hcz7_0
         try clear hcz7_1
         try clear hcz7_2
         try clear hcz7_3
         try clear hfz19_0
         try clear hfz21_0
         try clear hfz21_1
         try clear hfz21_2
         try clear hfz21_3
         try clear hfz31_0
         try clear hfz36_0
         try clear hfz36_1
         try clear hfz36_2
         try clear hfz36_3
         try clear hfz37_0
         try clear hfz7_0
         try clear hfz7_1
         try clear hfz7_2
         try clear hfz7_3
         try clear p11
         try clear p9
         try clear q11
         try clear q9
         obtain ⟨x40_1, x126000_1, u126000, rfl, HA, HK1, HO_38, HO_126000, BK122, BK123, BK124, BK125, HB⟩ := hrel
         cases gk with
         | zero => exact absurd HA.out (by simp [block_Read.l0])
         | succ k1 =>
          have H := HA.out
          clear HA
          simp only [block_Read.l0] at H
          by_cases c40 : x40_1 < (t126.length : Int)
          ·rw [if_pos c40] at H
           have c40b0 : decide (x40_1 < (t126.length : Int)) = true := decide_eq_true c40
           clear c40
           by_cases c41 : 0 ≤ x40_1
           ·rw [if_pos c41] at H
            have c41b0 : decide (0 ≤ x40_1) = true := decide_eq_true c41
            clear c41
            by_cases c42 : x40_1 < (t126.length : Int)
            ·rw [if_pos c42] at H
             have c42b0 : decide (x40_1 < (t126.length : Int)) = true := decide_eq_true c42
             clear c42
             by_cases c43 : x126000_1.length < 17592186044416
             ·rw [if_pos c43] at H
              have LMc43 := Aside0.mk c43
              clear c43
              obtain ⟨y130, hy130⟩ : ∃ y_ : List Int, y_ = (x126000_1 ++ [wrap64 (rd t126 x40_1)]) := ⟨_, rfl⟩
              replace H : (block_Read.l0 k1 ji22 (wrap64 (bt a1 1)) t126 (t126.length : Int) (wrap64 (x40_1 + 1)) a0_0 a0_1 a0_2 a0_3 a0_4 s2_ y130 (wrap64 (bt a1 1))) = some (r1, r2, r3, r4, r5) := by first | (rw [hy130]; with_reducible exact H) | (have H2_ := (Option.bind_some _ _).symm.trans H; rw [hy130]; with_reducible exact H2_) | (have H2_ := (Option.bind_some _ _).symm.trans H; with_reducible exact H2_) | with_reducible exact H | (rw [hy130]; exact H) | exact H
              have Ny130 := Aside0.mk hy130
              clear hy130
              have H' := Aside0.mk H
              clear H
              have p129 : 0 ≤ (x40_1 : Int) := of_decide_eq_true asm
              have q129 : x40_1 < (t126.length : Int) := of_decide_eq_true asm
              obtain ⟨ad129, e129, hx129_0⟩ := Kd.at_int (Kd.V_reads' HO_38.out).2.2 x40_1 p129 q129
              cases e129
              replace p129 := eq_true p129
              replace q129 := eq_true q129
              have hnb44 := NB125_122.out
              have hnc44 := NB122_125.out
              have hnb45 := NB125_123.out
              have hnc45 := NB123_125.out
              have hnb46 := NB125_124.out
              have hnc46 := NB124_125.out
              obtain ⟨hcz47_0, hcz47_1, hcz47_2, hcz47_3, hfz47_0, hfz47_1, hfz47_2, hfz47_3⟩ := cq4 BK125.out
              go_wp2_with (first | ((with_reducible refine gate_builtin (b := .append) (xs := #[.tmp 45, .tmp 48]) rfl ?_); at_builtin; refine Kd.R_append (Kd.int .i64) (w0 := w) w.heap.size rfl (.tmp 45) (.tmp 48) 24 3 (.int .i64 0) 8 rfl Try.underlying24 info3 rfl (by decide) (by omega) u126000 x126000_1 (wrap64 (rd t126 x40_1)) [.int .i64 (wrap64 (rd t126 x40_1))] (fun _ => True) (fun _ => False) rfl rfl ?aP (fun _ hk => hk.elim) ?aF ?aO ?aB ?aS ?aL ?_; (case aP => exact rfl); (case aB => exact bel); (case aF => exact (fun _ _ => trivial)); (case aO => exact (rr HO_126000.out)); (case aS => exact (below_size bel)); (case aL => have := LMc43.out; omega); intro v131 w48 ho hb hg hat; rw [← Ny130.out] at ho; have n0_ := Aside0.mk (Kd.V_afterv (ok := (fun k_ => k_ ≠ gb122 ∧ k_ ≠ gb123 ∧ k_ ≠ gb124 ∧ k_ ≠ gb125)) (by (with_reducible repeat (first | apply Kd.V_alloc | apply Kd.V_drewN | apply Kd.V_drew)); exact Kd.V_mono HO_38.out (fun _ hk => ⟨⟨hk.2.1, ⟨hk.2.2.1, ⟨hk.2.2.2.1, hk.2.2.2.2⟩⟩⟩, hk.1⟩)) hg hat); have n1_ := Aside0.mk (blk_grown (g := gb122) (o := .cells #[.int .i64 a0_0, .int .i64 a0_1, .int .i64 a0_2, .int .i64 a0_3, .int .i64 a0_4] 23 (0, 0)) (by (with_reducible repeat (first | refine blk_drewN ?_ _ | refine blk_drew ?_ | refine blk_alloc ?_ _)); exact BK122.out) hg (Kd.R_ne HO_126000.out BK122.out (by decide))); have n2_ := Aside0.mk (blk_grown (g := gb123) (o := .cells #[.slice none 0 0, .int .i64 0, .slice none 0 0, .slice none 0 0] 29 (0, 0)) (by (with_reducible repeat (first | refine blk_drewN ?_ _ | refine blk_drew ?_ | refine blk_alloc ?_ _)); exact BK123.out) hg (Kd.R_ne HO_126000.out BK123.out (by decide))); have n3_ := Aside0.mk (blk_grown (g := gb124) (o := .cells #[.string s2_] 9 (0, 0)) (by (with_reducible repeat (first | refine blk_drewN ?_ _ | refine blk_drew ?_ | refine blk_alloc ?_ _)); exact BK124.out) hg (Kd.R_ne HO_126000.out BK124.out (by decide))); have n4_ := Aside0.mk (blk_grown (g := gb125) (o := .cells #[u126000, .int .i64 (wrap64 (bt a1 1)), .slice none 0 0, .slice none 0 0] 29 (0, 0)) (by (with_reducible repeat (first | refine blk_drewN ?_ _ | refine blk_drew ?_ | refine blk_alloc ?_ _)); exact BK125.out) hg (Kd.R_ne HO_126000.out BK125.out (by decide))); have n5_ := Aside0.mk (hb); have n6_ := Aside0.mk (ho); clear HO_38; clear BK122; clear BK123; clear BK124; clear BK125; clear HB; clear HO_126000; have HO_38 := n0_; have BK122 := n1_; have BK123 := n2_; have BK124 := n3_; have BK125 := n4_; have HB := n5_; have HO132 := n6_; clear n0_ n1_ n2_ n3_ n4_ n5_ n6_; clear ho hb hg hat; obtain ⟨Ao49, co49, eo49⟩ := Kd.R_slice HO132.out; subst eo49; obtain ⟨hcz50_0, hcz50_1, hcz50_2, hcz50_3, hfz50_0, hfz50_1, hfz50_2, hfz50_3⟩ := cq4 BK125.out))
              repeat (go_quiet (first | ((with_reducible refine gate_builtin (b := .append) (xs := #[.tmp 45, .tmp 48]) rfl ?_); at_builtin; refine Kd.R_append (Kd.int .i64) (w0 := w) w.heap.size rfl (.tmp 45) (.tmp 48) 24 3 (.int .i64 0) 8 rfl Try.underlying24 info3 rfl (by decide) (by omega) u126000 x126000_1 (wrap64 (rd t126 x40_1)) [.int .i64 (wrap64 (rd t126 x40_1))] (fun _ => True) (fun _ => False) rfl rfl ?aP (fun _ hk => hk.elim) ?aF ?aO ?aB ?aS ?aL ?_; (case aP => exact rfl); (case aB => exact bel); (case aF => exact (fun _ _ => trivial)); (case aO => exact (rr HO_126000.out)); (case aS => exact (below_size bel)); (case aL => have := LMc43.out; omega); intro v131 w48 ho hb hg hat; rw [← Ny130.out] at ho; have n0_ := Aside0.mk (Kd.V_afterv (ok := (fun k_ => k_ ≠ gb122 ∧ k_ ≠ gb123 ∧ k_ ≠ gb124 ∧ k_ ≠ gb125)) (by (with_reducible repeat (first | apply Kd.V_alloc | apply Kd.V_drewN | apply Kd.V_drew)); exact Kd.V_mono HO_38.out (fun _ hk => ⟨⟨hk.2.1, ⟨hk.2.2.1, ⟨hk.2.2.2.1, hk.2.2.2.2⟩⟩⟩, hk.1⟩)) hg hat); have n1_ := Aside0.mk (blk_grown (g := gb122) (o := .cells #[.int .i64 a0_0, .int .i64 a0_1, .int .i64 a0_2, .int .i64 a0_3, .int .i64 a0_4] 23 (0, 0)) (by (with_reducible repeat (first | refine blk_drewN ?_ _ | refine blk_drew ?_ | refine blk_alloc ?_ _)); exact BK122.out) hg (Kd.R_ne HO_126000.out BK122.out (by decide))); have n2_ := Aside0.mk (blk_grown (g := gb123) (o := .cells #[.slice none 0 0, .int .i64 0, .slice none 0 0, .slice none 0 0] 29 (0, 0)) (by (with_reducible repeat (first | refine blk_drewN ?_ _ | refine blk_drew ?_ | refine blk_alloc ?_ _)); exact BK123.out) hg (Kd.R_ne HO_126000.out BK123.out (by decide))); have n3_ := Aside0.mk (blk_grown (g := gb124) (o := .cells #[.string s2_] 9 (0, 0)) (by (with_reducible repeat (first | refine blk_drewN ?_ _ | refine blk_drew ?_ | refine blk_alloc ?_ _)); exact BK124.out) hg (Kd.R_ne HO_126000.out BK124.out (by decide))); have n4_ := Aside0.mk (blk_grown (g := gb125) (o := .cells #[u126000, .int .i64 (wrap64 (bt a1 1)), .slice none 0 0, .slice none 0 0] 29 (0, 0)) (by (with_reducible repeat (first | refine blk_drewN ?_ _ | refine blk_drew ?_ | refine blk_alloc ?_ _)); exact BK125.out) hg (Kd.R_ne HO_126000.out BK125.out (by decide))); have n5_ := Aside0.mk (hb); have n6_ := Aside0.mk (ho); clear HO_38; clear BK122; clear BK123; clear BK124; clear BK125; clear HB; clear HO_126000; have HO_38 := n0_; have BK122 := n1_; have BK123 := n2_; have BK124 := n3_; have BK125 := n4_; have HB := n5_; have HO132 := n6_; clear n0_ n1_ n2_ n3_ n4_ n5_ n6_; clear ho hb hg hat; obtain ⟨Ao49, co49, eo49⟩ := Kd.R_slice HO132.out; subst eo49; obtain ⟨hcz50_0, hcz50_1, hcz50_2, hcz50_3, hfz50_0, hfz50_1, hfz50_2, hfz50_3⟩ := cq4 BK125.out)); try go_wp2_with (first | ((with_reducible refine gate_builtin (b := .append) (xs := #[.tmp 45, .tmp 48]) rfl ?_); at_builtin; refine Kd.R_append (Kd.int .i64) (w0 := w) w.heap.size rfl (.tmp 45) (.tmp 48) 24 3 (.int .i64 0) 8 rfl Try.underlying24 info3 rfl (by decide) (by omega) u126000 x126000_1 (wrap64 (rd t126 x40_1)) [.int .i64 (wrap64 (rd t126 x40_1))] (fun _ => True) (fun _ => False) rfl rfl ?aP (fun _ hk => hk.elim) ?aF ?aO ?aB ?aS ?aL ?_; (case aP => exact rfl); (case aB => exact bel); (case aF => exact (fun _ _ => trivial)); (case aO => exact (rr HO_126000.out)); (case aS => exact (below_size bel)); (case aL => have := LMc43.out; omega); intro v131 w48 ho hb hg hat; rw [← Ny130.out] at ho; have n0_ := Aside0.mk (Kd.V_afterv (ok := (fun k_ => k_ ≠ gb122 ∧ k_ ≠ gb123 ∧ k_ ≠ gb124 ∧ k_ ≠ gb125)) (by (with_reducible repeat (first | apply Kd.V_alloc | apply Kd.V_drewN | apply Kd.V_drew)); exact Kd.V_mono HO_38.out (fun _ hk => ⟨⟨hk.2.1, ⟨hk.2.2.1, ⟨hk.2.2.2.1, hk.2.2.2.2⟩⟩⟩, hk.1⟩)) hg hat); have n1_ := Aside0.mk (blk_grown (g := gb122) (o := .cells #[.int .i64 a0_0, .int .i64 a0_1, .int .i64 a0_2, .int .i64 a0_3, .int .i64 a0_4] 23 (0, 0)) (by (with_reducible repeat (first | refine blk_drewN ?_ _ | refine blk_drew ?_ | refine blk_alloc ?_ _)); exact BK122.out) hg (Kd.R_ne HO_126000.out BK122.out (by decide))); have n2_ := Aside0.mk (blk_grown (g := gb123) (o := .cells #[.slice none 0 0, .int .i64 0, .slice none 0 0, .slice none 0 0] 29 (0, 0)) (by (with_reducible repeat (first | refine blk_drewN ?_ _ | refine blk_drew ?_ | refine blk_alloc ?_ _)); exact BK123.out) hg (Kd.R_ne HO_126000.out BK123.out (by decide))); have n3_ := Aside0.mk (blk_grown (g := gb124) (o := .cells #[.string s2_] 9 (0, 0)) (by (with_reducible repeat (first | refine blk_drewN ?_ _ | refine blk_drew ?_ | refine blk_alloc ?_ _)); exact BK124.out) hg (Kd.R_ne HO_126000.out BK124.out (by decide))); have n4_ := Aside0.mk (blk_grown (g := gb125) (o := .cells #[u126000, .int .i64 (wrap64 (bt a1 1)), .slice none 0 0, .slice none 0 0] 29 (0, 0)) (by (with_reducible repeat (first | refine blk_drewN ?_ _ | refine blk_drew ?_ | refine blk_alloc ?_ _)); exact BK125.out) hg (Kd.R_ne HO_126000.out BK125.out (by decide))); have n5_ := Aside0.mk (hb); have n6_ := Aside0.mk (ho); clear HO_38; clear BK122; clear BK123; clear BK124; clear BK125; clear HB; clear HO_126000; have HO_38 := n0_; have BK122 := n1_; have BK123 := n2_; have BK124 := n3_; have BK125 := n4_; have HB := n5_; have HO132 := n6_; clear n0_ n1_ n2_ n3_ n4_ n5_ n6_; clear ho hb hg hat; obtain ⟨Ao49, co49, eo49⟩ := Kd.R_slice HO132.out; subst eo49; obtain ⟨hcz50_0, hcz50_1, hcz50_2, hcz50_3, hfz50_0, hfz50_1, hfz50_2, hfz50_3⟩ := cq4 BK125.out)))
              go_roundg k1
              case measure => have := HK1.out; omega
              case rel => exact ⟨(wrap64 (x40_1 + 1)), (y130), (.slice Ao49 y130.length co49), rs, H', ⟨by have := HK1.out; omega⟩, ⟨by (with_reducible repeat (first | apply Kd.V_alloc | apply Kd.V_drewN | apply Kd.V_drew)); exact Kd.V_mono (Kd.V_far (p := ⟨gb125, 0, none⟩) (Kd.V_mono HO_38.out (fun k_ hk => (⟨hk, hk.1.2.2.2⟩ : _ ∧ k_ ≠ gb125))) (fun _ hk => hk.2) (.slice Ao49 y130.length co49)) (fun _ hk => ⟨hk.1.2, ⟨hk.1.1.1, ⟨hk.1.1.2.1, ⟨hk.1.1.2.2.1, hk.1.1.2.2.2⟩⟩⟩⟩)⟩, ⟨by (with_reducible repeat (first | apply Kd.R_alloc | apply Kd.R_drewN | apply Kd.R_drew)); exact Kd.R_mono (Kd.R_far (p := ⟨gb125, 0, none⟩) (Kd.R_types HO132.out BK125.out (by decide)) (fun _ hk => hk.2) (.slice Ao49 y130.length co49)) (fun _ hk => trivial)⟩, ⟨by (with_reducible repeat (first | refine blk_drewN ?_ _ | refine blk_drew ?_ | refine blk_alloc ?_ _)); refine blk_far ?_ NB122_125.out _; (with_reducible repeat (first | refine blk_drewN ?_ _ | refine blk_drew ?_ | refine blk_alloc ?_ _)); exact BK122.out⟩, ⟨by (with_reducible repeat (first | refine blk_drewN ?_ _ | refine blk_drew ?_ | refine blk_alloc ?_ _)); refine blk_far ?_ NB123_125.out _; (with_reducible repeat (first | refine blk_drewN ?_ _ | refine blk_drew ?_ | refine blk_alloc ?_ _)); exact BK123.out⟩, ⟨by (with_reducible repeat (first | refine blk_drewN ?_ _ | refine blk_drew ?_ | refine blk_alloc ?_ _)); refine blk_far ?_ NB124_125.out _; (with_reducible repeat (first | refine blk_drewN ?_ _ | refine blk_drew ?_ | refine blk_alloc ?_ _)); exact BK124.out⟩, ⟨by (with_reducible repeat (first | refine blk_drewN ?_ _ | refine blk_drew ?_ | refine blk_alloc ?_ _)); refine blk_put (cs := #[u126000, .int .i64 (wrap64 (bt a1 1)), .slice none 0 0, .slice none 0 0]) ?_ 0 _ rfl; (with_reducible repeat (first | refine blk_drewN ?_ _ | refine blk_drew ?_ | refine blk_alloc ?_ _)); exact BK125.out⟩, ⟨by repeat (first | (with_reducible first | exact HB.out | apply below_alloc | apply pw_below_drewN | apply below_drew1 | refine below_set ?_ GE122.out | refine below_set ?_ GE123.out | refine below_set ?_ GE124.out | refine below_set ?_ GE125.out) | exact HB.out)⟩⟩
             ·rw [if_neg c43] at H
              exact absurd H (by simp)
            ·rw [if_neg c42] at H
             exact absurd H (by simp)
           ·rw [if_neg c41] at H
            exact absurd H (by simp)
          ·rw [if_neg c40] at H
           have c40b0 : decide (x40_1 < (t126.length : Int)) = false := decide_eq_false c40
           clear c40
           by_cases c51 : 0 ≤ ji22
           ·rw [if_pos c51] at H
            have c51b0 := eq_true c51
            have c51b1 : decide (0 ≤ ji22) = true := decide_eq_true c51
            clear c51
            by_cases c52 : ji22 ≤ (s2_.size : Int)
            ·rw [if_pos c52] at H
             have c52b0 := eq_true c52
             have c52b1 : decide (ji22 ≤ (s2_.size : Int)) = true := decide_eq_true c52
             clear c52
             obtain ⟨ji53, hji53⟩ : ∃ j_ : Int, (mx (wrap64 (ji22 - (wrap64 (bt a1 1)))) 0) = j_ := ⟨_, rfl⟩
             replace H : (if ((s2_.extract (ji22 : Int).toNat s2_.size).size : Int) = (wrap64 ((wrap64 ((wrap64 (8 * (ji53))) * (mx a0_4 0))) * (mx a0_1 0))) then (if a0_4 > 4 then (block_Read.j1 k1 true a0_0 a0_1 a0_2 a0_3 a0_4 (s2_.extract (ji22 : Int).toNat s2_.size) x126000_1 (wrap64 (bt a1 1)) ji53) else (block_Read.j1 k1 (decide (a0_1 > 32)) a0_0 a0_1 a0_2 a0_3 a0_4 (s2_.extract (ji22 : Int).toNat s2_.size) x126000_1 (wrap64 (bt a1 1)) ji53)) else (block_Read.j1 k1 true a0_0 a0_1 a0_2 a0_3 a0_4 (s2_.extract (ji22 : Int).toNat s2_.size) x126000_1 (wrap64 (bt a1 1)) ji53)) = some (r1, r2, r3, r4, r5) := by first | (rw [hji53] at H; exact H) | (simp only [hji53] at H ⊢; exact H)
             have hji53_ : (if (wrap64 (ji22 - (wrap64 (bt a1 1)))) < 0 then 0 else (wrap64 (ji22 - (wrap64 (bt a1 1))))) = ji53 := hji53
             obtain ⟨ji54, hji54⟩ : ∃ j_ : Int, (mx a0_4 0) = j_ := ⟨_, rfl⟩
             replace H : (if ((s2_.extract (ji22 : Int).toNat s2_.size).size : Int) = (wrap64 ((wrap64 ((wrap64 (8 * (ji53))) * (ji54))) * (mx a0_1 0))) then (if a0_4 > 4 then (block_Read.j1 k1 true a0_0 a0_1 a0_2 a0_3 a0_4 (s2_.extract (ji22 : Int).toNat s2_.size) x126000_1 (wrap64 (bt a1 1)) ji53) else (block_Read.j1 k1 (decide (a0_1 > 32)) a0_0 a0_1 a0_2 a0_3 a0_4 (s2_.extract (ji22 : Int).toNat s2_.size) x126000_1 (wrap64 (bt a1 1)) ji53)) else (block_Read.j1 k1 true a0_0 a0_1 a0_2 a0_3 a0_4 (s2_.extract (ji22 : Int).toNat s2_.size) x126000_1 (wrap64 (bt a1 1)) ji53)) = some (r1, r2, r3, r4, r5) := by first | (rw [hji54] at H; exact H) | (simp only [hji54] at H ⊢; exact H)
             have hji54_ : (if a0_4 < 0 then 0 else a0_4) = ji54 := hji54
             obtain ⟨ji55, hji55⟩ : ∃ j_ : Int, (mx a0_1 0) = j_ := ⟨_, rfl⟩
             replace H : (if ((s2_.extract (ji22 : Int).toNat s2_.size).size : Int) = (wrap64 ((wrap64 ((wrap64 (8 * (ji53))) * (ji54))) * (ji55))) then (if a0_4 > 4 then (block_Read.j1 k1 true a0_0 a0_1 a0_2 a0_3 a0_4 (s2_.extract (ji22 : Int).toNat s2_.size) x126000_1 (wrap64 (bt a1 1)) ji53) else (block_Read.j1 k1 (decide (a0_1 > 32)) a0_0 a0_1 a0_2 a0_3 a0_4 (s2_.extract (ji22 : Int).toNat s2_.size) x126000_1 (wrap64 (bt a1 1)) ji53)) else (block_Read.j1 k1 true a0_0 a0_1 a0_2 a0_3 a0_4 (s2_.extract (ji22 : Int).toNat s2_.size) x126000_1 (wrap64 (bt a1 1)) ji53)) = some (r1, r2, r3, r4, r5) := by first | (rw [hji55] at H; exact H) | (simp only [hji55] at H ⊢; exact H)
             have hji55_ : (if a0_1 < 0 then 0 else a0_1) = ji55 := hji55
             have HC56 := Aside0.mk H
             clear H
             have hnb57 := NB124_122.out
             have hnc57 := NB122_124.out
             have hnb58 := NB124_123.out
             have hnc58 := NB123_124.out
             have hnb59 := NB124_125.out
             have hnc59 := NB125_124.out
             have hcz60_0 := cv BK124.out 0 (.string s2_)
             have hfz60_0 := blk_frozen BK124.out 0
             go_upto_region 16 with (first | ((with_reducible refine gate_dst (N := 12) rfl ?_); refine bxe (N := 12) (cs := #[.int .i64 0]) (t := 3) ?_; intro gb133 hg w61 hbox hb; have n0_ := Aside0.mk (Kd.V_below (Kd.V_elderB (by (with_reducible repeat (first | apply Kd.V_alloc | apply Kd.V_drewN | apply Kd.V_drew)); exact (Kd.V_mono (Kd.V_far (p := ⟨gb124, 0, none⟩) (Kd.V_mono HO_38.out (fun k_ hk => (⟨hk, hk.2.2.2.1⟩ : _ ∧ k_ ≠ gb124))) (fun _ hk => hk.2) (.string (s2_.extract (ji22 : Int).toNat s2_.size))) (fun _ h_ => h_.1))) gb133 (Nat.le_of_eq hg.symm)) hb); have n1_ := Aside0.mk (Kd.R_below (Kd.R_elderB (by (with_reducible repeat (first | apply Kd.R_alloc | apply Kd.R_drewN | apply Kd.R_drew)); exact (Kd.R_mono (Kd.R_far (p := ⟨gb124, 0, none⟩) (Kd.R_types HO_126000.out BK124.out (by decide)) (fun _ hk => hk.2) (.string (s2_.extract (ji22 : Int).toNat s2_.size))) (fun _ h_ => h_.1))) gb133 (Nat.le_of_eq hg.symm)) hb); have n2_ := Aside0.mk (blk_below (g := gb122) (bk BK122.out) hb); have n3_ := Aside0.mk (blk_below (g := gb123) (bk BK123.out) hb); have n4_ := Aside0.mk (blk_below (g := gb124) (o := .cells #[.string (s2_.extract (ji22 : Int).toNat s2_.size)] 9 (0, 0)) (bkp BK124.out) hb); have n5_ := Aside0.mk (blk_below (g := gb125) (bk BK125.out) hb); have n6_ := Aside0.mk (below_step bel hb); have n7_ := Aside0.mk (hbox); have n8_ := Aside0.mk ((bsz hg : w.heap.size ≤ gb133)); have n9_ := Aside0.mk ((bsz hg : w.heap.size ≤ gb133)); have n10_ := Aside0.mk ((by rw [hg]; exact Nat.ne_of_lt (blk_lt (g := gb122) (bk BK122.out)) : gb122 ≠ gb133)); have n11_ := Aside0.mk ((by rw [hg]; exact Nat.ne_of_gt (blk_lt (g := gb122) (bk BK122.out)) : gb133 ≠ gb122)); have n12_ := Aside0.mk ((by rw [hg]; exact Nat.ne_of_lt (blk_lt (g := gb123) (bk BK123.out)) : gb123 ≠ gb133)); have n13_ := Aside0.mk ((by rw [hg]; exact Nat.ne_of_gt (blk_lt (g := gb123) (bk BK123.out)) : gb133 ≠ gb123)); have n14_ := Aside0.mk ((by rw [hg]; exact Nat.ne_of_lt (blk_lt (g := gb124) (o := .cells #[.string (s2_.extract (ji22 : Int).toNat s2_.size)] 9 (0, 0)) (bkp BK124.out)) : gb124 ≠ gb133)); have n15_ := Aside0.mk ((by rw [hg]; exact Nat.ne_of_gt (blk_lt (g := gb124) (o := .cells #[.string (s2_.extract (ji22 : Int).toNat s2_.size)] 9 (0, 0)) (bkp BK124.out)) : gb133 ≠ gb124)); have n16_ := Aside0.mk ((by rw [hg]; exact Nat.ne_of_lt (blk_lt (g := gb125) (bk BK125.out)) : gb125 ≠ gb133)); have n17_ := Aside0.mk ((by rw [hg]; exact Nat.ne_of_gt (blk_lt (g := gb125) (bk BK125.out)) : gb133 ≠ gb125)); clear HO_38; clear HO_126000; clear BK122; clear BK123; clear BK124; clear BK125; clear HB; have HO_38 := n0_; have HO_126000 := n1_; have BK122 := n2_; have BK123 := n3_; have BK124 := n4_; have BK125 := n5_; have HB := n6_; have BK133 := n7_; have GW133 := n8_; have GE133 := n9_; have NB122_133 := n10_; have NB133_122 := n11_; have NB123_133 := n12_; have NB133_123 := n13_; have NB124_133 := n14_; have NB133_124 := n15_; have NB125_133 := n16_; have NB133_125 := n17_; clear n0_ n1_ n2_ n3_ n4_ n5_ n6_ n7_ n8_ n9_ n10_ n11_ n12_ n13_ n14_ n15_ n16_ n17_; clear hb hbox hg; have hnb62 := NB133_122.out; have hnc62 := NB122_133.out; have hnb63 := NB133_123.out; have hnc63 := NB123_133.out; have hnb64 := NB133_124.out; have hnc64 := NB124_133.out; have hnb65 := NB133_125.out; have hnc65 := NB125_133.out; have hcz66_0 := cv BK133.out 0 (.int .i64 0); have hfz66_0 := blk_frozen BK133.out 0; have hnb67 := NB122_123.out; have hnc67 := NB123_122.out; have hnb68 := NB122_125.out; have hnc68 := NB125_122.out; obtain ⟨hcz69_0, hcz69_1, hcz69_2, hcz69_3, hcz69_4, hfz69_0, hfz69_1, hfz69_2, hfz69_3, hfz69_4⟩ := cq5 BK122.out))
             repeat (go_quiet (first | ((with_reducible refine gate_dst (N := 12) rfl ?_); refine bxe (N := 12) (cs := #[.int .i64 0]) (t := 3) ?_; intro gb133 hg w61 hbox hb; have n0_ := Aside0.mk (Kd.V_below (Kd.V_elderB (by (with_reducible repeat (first | apply Kd.V_alloc | apply Kd.V_drewN | apply Kd.V_drew)); exact (Kd.V_mono (Kd.V_far (p := ⟨gb124, 0, none⟩) (Kd.V_mono HO_38.out (fun k_ hk => (⟨hk, hk.2.2.2.1⟩ : _ ∧ k_ ≠ gb124))) (fun _ hk => hk.2) (.string (s2_.extract (ji22 : Int).toNat s2_.size))) (fun _ h_ => h_.1))) gb133 (Nat.le_of_eq hg.symm)) hb); have n1_ := Aside0.mk (Kd.R_below (Kd.R_elderB (by (with_reducible repeat (first | apply Kd.R_alloc | apply Kd.R_drewN | apply Kd.R_drew)); exact (Kd.R_mono (Kd.R_far (p := ⟨gb124, 0, none⟩) (Kd.R_types HO_126000.out BK124.out (by decide)) (fun _ hk => hk.2) (.string (s2_.extract (ji22 : Int).toNat s2_.size))) (fun _ h_ => h_.1))) gb133 (Nat.le_of_eq hg.symm)) hb); have n2_ := Aside0.mk (blk_below (g := gb122) (bk BK122.out) hb); have n3_ := Aside0.mk (blk_below (g := gb123) (bk BK123.out) hb); have n4_ := Aside0.mk (blk_below (g := gb124) (o := .cells #[.string (s2_.extract (ji22 : Int).toNat s2_.size)] 9 (0, 0)) (bkp BK124.out) hb); have n5_ := Aside0.mk (blk_below (g := gb125) (bk BK125.out) hb); have n6_ := Aside0.mk (below_step bel hb); have n7_ := Aside0.mk (hbox); have n8_ := Aside0.mk ((bsz hg : w.heap.size ≤ gb133)); have n9_ := Aside0.mk ((bsz hg : w.heap.size ≤ gb133)); have n10_ := Aside0.mk ((by rw [hg]; exact Nat.ne_of_lt (blk_lt (g := gb122) (bk BK122.out)) : gb122 ≠ gb133)); have n11_ := Aside0.mk ((by rw [hg]; exact Nat.ne_of_gt (blk_lt (g := gb122) (bk BK122.out)) : gb133 ≠ gb122)); have n12_ := Aside0.mk ((by rw [hg]; exact Nat.ne_of_lt (blk_lt (g := gb123) (bk BK123.out)) : gb123 ≠ gb133)); have n13_ := Aside0.mk ((by rw [hg]; exact Nat.ne_of_gt (blk_lt (g := gb123) (bk BK123.out)) : gb133 ≠ gb123)); have n14_ := Aside0.mk ((by rw [hg]; exact Nat.ne_of_lt (blk_lt (g := gb124) (o := .cells #[.string (s2_.extract (ji22 : Int).toNat s2_.size)] 9 (0, 0)) (bkp BK124.out)) : gb124 ≠ gb133)); have n15_ := Aside0.mk ((by rw [hg]; exact Nat.ne_of_gt (blk_lt (g := gb124) (o := .cells #[.string (s2_.extract (ji22 : Int).toNat s2_.size)] 9 (0, 0)) (bkp BK124.out)) : gb133 ≠ gb124)); have n16_ := Aside0.mk ((by rw [hg]; exact Nat.ne_of_lt (blk_lt (g := gb125) (bk BK125.out)) : gb125 ≠ gb133)); have n17_ := Aside0.mk ((by rw [hg]; exact Nat.ne_of_gt (blk_lt (g := gb125) (bk BK125.out)) : gb133 ≠ gb125)); clear HO_38; clear HO_126000; clear BK122; clear BK123; clear BK124; clear BK125; clear HB; have HO_38 := n0_; have HO_126000 := n1_; have BK122 := n2_; have BK123 := n3_; have BK124 := n4_; have BK125 := n5_; have HB := n6_; have BK133 := n7_; have GW133 := n8_; have GE133 := n9_; have NB122_133 := n10_; have NB133_122 := n11_; have NB123_133 := n12_; have NB133_123 := n13_; have NB124_133 := n14_; have NB133_124 := n15_; have NB125_133 := n16_; have NB133_125 := n17_; clear n0_ n1_ n2_ n3_ n4_ n5_ n6_ n7_ n8_ n9_ n10_ n11_ n12_ n13_ n14_ n15_ n16_ n17_; clear hb hbox hg; have hnb62 := NB133_122.out; have hnc62 := NB122_133.out; have hnb63 := NB133_123.out; have hnc63 := NB123_133.out; have hnb64 := NB133_124.out; have hnc64 := NB124_133.out; have hnb65 := NB133_125.out; have hnc65 := NB125_133.out; have hcz66_0 := cv BK133.out 0 (.int .i64 0); have hfz66_0 := blk_frozen BK133.out 0; have hnb67 := NB122_123.out; have hnc67 := NB123_122.out; have hnb68 := NB122_125.out; have hnc68 := NB125_122.out; obtain ⟨hcz69_0, hcz69_1, hcz69_2, hcz69_3, hcz69_4, hfz69_0, hfz69_1, hfz69_2, hfz69_3, hfz69_4⟩ := cq5 BK122.out)); go_upto_region 16 with (first | ((with_reducible refine gate_dst (N := 12) rfl ?_); refine bxe (N := 12) (cs := #[.int .i64 0]) (t := 3) ?_; intro gb133 hg w61 hbox hb; have n0_ := Aside0.mk (Kd.V_below (Kd.V_elderB (by (with_reducible repeat (first | apply Kd.V_alloc | apply Kd.V_drewN | apply Kd.V_drew)); exact (Kd.V_mono (Kd.V_far (p := ⟨gb124, 0, none⟩) (Kd.V_mono HO_38.out (fun k_ hk => (⟨hk, hk.2.2.2.1⟩ : _ ∧ k_ ≠ gb124))) (fun _ hk => hk.2) (.string (s2_.extract (ji22 : Int).toNat s2_.size))) (fun _ h_ => h_.1))) gb133 (Nat.le_of_eq hg.symm)) hb); have n1_ := Aside0.mk (Kd.R_below (Kd.R_elderB (by (with_reducible repeat (first | apply Kd.R_alloc | apply Kd.R_drewN | apply Kd.R_drew)); exact (Kd.R_mono (Kd.R_far (p := ⟨gb124, 0, none⟩) (Kd.R_types HO_126000.out BK124.out (by decide)) (fun _ hk => hk.2) (.string (s2_.extract (ji22 : Int).toNat s2_.size))) (fun _ h_ => h_.1))) gb133 (Nat.le_of_eq hg.symm)) hb); have n2_ := Aside0.mk (blk_below (g := gb122) (bk BK122.out) hb); have n3_ := Aside0.mk (blk_below (g := gb123) (bk BK123.out) hb); have n4_ := Aside0.mk (blk_below (g := gb124) (o := .cells #[.string (s2_.extract (ji22 : Int).toNat s2_.size)] 9 (0, 0)) (bkp BK124.out) hb); have n5_ := Aside0.mk (blk_below (g := gb125) (bk BK125.out) hb); have n6_ := Aside0.mk (below_step bel hb); have n7_ := Aside0.mk (hbox); have n8_ := Aside0.mk ((bsz hg : w.heap.size ≤ gb133)); have n9_ := Aside0.mk ((bsz hg : w.heap.size ≤ gb133)); have n10_ := Aside0.mk ((by rw [hg]; exact Nat.ne_of_lt (blk_lt (g := gb122) (bk BK122.out)) : gb122 ≠ gb133)); have n11_ := Aside0.mk ((by rw [hg]; exact Nat.ne_of_gt (blk_lt (g := gb122) (bk BK122.out)) : gb133 ≠ gb122)); have n12_ := Aside0.mk ((by rw [hg]; exact Nat.ne_of_lt (blk_lt (g := gb123) (bk BK123.out)) : gb123 ≠ gb133)); have n13_ := Aside0.mk ((by rw [hg]; exact Nat.ne_of_gt (blk_lt (g := gb123) (bk BK123.out)) : gb133 ≠ gb123)); have n14_ := Aside0.mk ((by rw [hg]; exact Nat.ne_of_lt (blk_lt (g := gb124) (o := .cells #[.string (s2_.extract (ji22 : Int).toNat s2_.size)] 9 (0, 0)) (bkp BK124.out)) : gb124 ≠ gb133)); have n15_ := Aside0.mk ((by rw [hg]; exact Nat.ne_of_gt (blk_lt (g := gb124) (o := .cells #[.string (s2_.extract (ji22 : Int).toNat s2_.size)] 9 (0, 0)) (bkp BK124.out)) : gb133 ≠ gb124)); have n16_ := Aside0.mk ((by rw [hg]; exact Nat.ne_of_lt (blk_lt (g := gb125) (bk BK125.out)) : gb125 ≠ gb133)); have n17_ := Aside0.mk ((by rw [hg]; exact Nat.ne_of_gt (blk_lt (g := gb125) (bk BK125.out)) : gb133 ≠ gb125)); clear HO_38; clear HO_126000; clear BK122; clear BK123; clear BK124; clear BK125; clear HB; have HO_38 := n0_; have HO_126000 := n1_; have BK122 := n2_; have BK123 := n3_; have BK124 := n4_; have BK125 := n5_; have HB := n6_; have BK133 := n7_; have GW133 := n8_; have GE133 := n9_; have NB122_133 := n10_; have NB133_122 := n11_; have NB123_133 := n12_; have NB133_123 := n13_; have NB124_133 := n14_; have NB133_124 := n15_; have NB125_133 := n16_; have NB133_125 := n17_; clear n0_ n1_ n2_ n3_ n4_ n5_ n6_ n7_ n8_ n9_ n10_ n11_ n12_ n13_ n14_ n15_ n16_ n17_; clear hb hbox hg; have hnb62 := NB133_122.out; have hnc62 := NB122_133.out; have hnb63 := NB133_123.out; have hnc63 := NB123_133.out; have hnb64 := NB133_124.out; have hnc64 := NB124_133.out; have hnb65 := NB133_125.out; have hnc65 := NB125_133.out; have hcz66_0 := cv BK133.out 0 (.int .i64 0); have hfz66_0 := blk_frozen BK133.out 0; have hnb67 := NB122_123.out; have hnc67 := NB123_122.out; have hnb68 := NB122_125.out; have hnc68 := NB125_122.out; obtain ⟨hcz69_0, hcz69_1, hcz69_2, hcz69_3, hcz69_4, hfz69_0, hfz69_1, hfz69_2, hfz69_3, hfz69_4⟩ := cq5 BK122.out)))
             (try simp only [Act.put, List.setIfInBounds_toArray, List.set_cons_zero, List.set_cons_succ])
             go_cut [82] (fun v82 wc => ∃ (kq : Nat) (x82_55 : Bool), v82 = .bool x82_55 ∧ Aside0 (block_Read.j1 kq x82_55 a0_0 a0_1 a0_2 a0_3 a0_4 (s2_.extract (ji22 : Int).toNat s2_.size) x126000_1 (wrap64 (bt a1 1)) ji53 = some (r1, r2, r3, r4, r5)) ∧ Aside0 (kq ≤ k1) ∧ Aside0 (Kd.R (Kd.int .i64) 3 wc w.heap.size (fun k_ => k_ ≠ gb133) u126000 x126000_1) ∧ Aside0 (wc.heap[gb122]? = some (.cells #[.int .i64 a0_0, .int .i64 a0_1, .int .i64 a0_2, .int .i64 a0_3, .int .i64 a0_4] 23 (0, 0))) ∧ Aside0 (wc.heap[gb123]? = some (.cells #[(.slice none 0 0), .int .i64 0, (.slice none 0 0), (.slice none 0 0)] 29 (0, 0))) ∧ Aside0 (wc.heap[gb124]? = some (.cells #[.string (s2_.extract (ji22 : Int).toNat s2_.size)] 9 (0, 0))) ∧ Aside0 (wc.heap[gb125]? = some (.cells #[u126000, .int .i64 (wrap64 (bt a1 1)), (.slice none 0 0), (.slice none 0 0)] 29 (0, 0))) ∧ Aside0 (wc.heap[gb133]? = some (.cells #[.int .i64 ji53] 3 (0, 0))) ∧ Aside0 (Below w.heap.size w wc))
             case first =>
              have H := HC56.out
              clear HC56
              by_cases c70 : ((s2_.extract (ji22 : Int).toNat s2_.size).size : Int) = (wrap64 ((wrap64 ((wrap64 (8 * (ji53))) * (ji54))) * (ji55)))
              ·rw [if_pos c70] at H
               have c70b0 : (((s2_.extract (ji22 : Int).toNat s2_.size).size : Int) == (wrap64 ((wrap64 ((wrap64 (8 * (ji53))) * (ji54))) * (ji55)))) = true := beq_iff_eq.mpr c70
               (try have c70z0 : (((s2_.size - (ji22 : Int).toNat : Nat) : Int) == (wrap64 ((wrap64 ((wrap64 (8 * (ji53))) * (ji54))) * (ji55)))) = true := by have h_ := c70b0; simp only [ByteArray.size_extract, Nat.min_self] at h_; exact h_)
               have c70b1 : (((s2_.extract (ji22 : Int).toNat s2_.size).size : Int) != (wrap64 ((wrap64 ((wrap64 (8 * (ji53))) * (ji54))) * (ji55)))) = false := bne_eq_false_iff_eq.mpr c70
               (try have c70z1 : (((s2_.size - (ji22 : Int).toNat : Nat) : Int) != (wrap64 ((wrap64 ((wrap64 (8 * (ji53))) * (ji54))) * (ji55)))) = false := by have h_ := c70b1; simp only [ByteArray.size_extract, Nat.min_self] at h_; exact h_)
               clear c70
               (first | rw [c70b0] | (simp only [i64_w, i32_w]; rw [c70b0]) | skip)
               by_cases c71 : a0_4 > 4
               ·rw [if_pos c71] at H
                have c71b0 : decide (4 < a0_4) = true := decide_eq_true c71
                clear c71
                have H' := Aside0.mk H
                clear H
                have hnb72 := NB124_122.out
                have hnc72 := NB122_124.out
                have hnb73 := NB124_123.out
                have hnc73 := NB123_124.out
                have hnb74 := NB124_125.out
                have hnc74 := NB125_124.out
                have hnb75 := NB124_133.out
                have hnc75 := NB133_124.out
                have hcz76_0 := cv BK124.out 0 (.string (s2_.extract (ji22 : Int).toNat s2_.size))
                have hfz76_0 := blk_frozen BK124.out 0
                have hnb77 := NB122_123.out
                have hnc77 := NB123_122.out
                have hnb78 := NB122_125.out
                have hnc78 := NB125_122.out
                have hnb79 := NB122_133.out
                have hnc79 := NB133_122.out
                obtain ⟨hcz80_0, hcz80_1, hcz80_2, hcz80_3, hcz80_4, hfz80_0, hfz80_1, hfz80_2, hfz80_3, hfz80_4⟩ := cq5 BK122.out
                go_wp2
                repeat (go_quiet (fail); try go_wp2)
                go_meet
                case rel => exact ⟨_, (true), rs, H', ⟨by have := HK1.out; first | omega | exact Nat.le_refl _⟩, ⟨by (with_reducible repeat (first | apply Kd.R_alloc | apply Kd.R_drewN | apply Kd.R_drew)); exact Kd.R_mono (Kd.R_far (p := ⟨gb133, 0, none⟩) (Kd.R_mono HO_126000.out (fun k_ hk => (⟨hk, hk.2⟩ : _ ∧ k_ ≠ gb133))) (fun _ hk => hk.2) (.int .i64 ji53)) (fun _ hk => hk.1.2)⟩, ⟨by (with_reducible repeat (first | refine blk_drewN ?_ _ | refine blk_drew ?_ | refine blk_alloc ?_ _)); refine blk_far ?_ NB122_133.out _; (with_reducible repeat (first | refine blk_drewN ?_ _ | refine blk_drew ?_ | refine blk_alloc ?_ _)); exact BK122.out⟩, ⟨by (with_reducible repeat (first | refine blk_drewN ?_ _ | refine blk_drew ?_ | refine blk_alloc ?_ _)); refine blk_far ?_ NB123_133.out _; (with_reducible repeat (first | refine blk_drewN ?_ _ | refine blk_drew ?_ | refine blk_alloc ?_ _)); exact BK123.out⟩, ⟨by (with_reducible repeat (first | refine blk_drewN ?_ _ | refine blk_drew ?_ | refine blk_alloc ?_ _)); refine blk_far ?_ NB124_133.out _; (with_reducible repeat (first | refine blk_drewN ?_ _ | refine blk_drew ?_ | refine blk_alloc ?_ _)); exact BK124.out⟩, ⟨by (with_reducible repeat (first | refine blk_drewN ?_ _ | refine blk_drew ?_ | refine blk_alloc ?_ _)); refine blk_far ?_ NB125_133.out _; (with_reducible repeat (first | refine blk_drewN ?_ _ | refine blk_drew ?_ | refine blk_alloc ?_ _)); exact BK125.out⟩, ⟨by (with_reducible repeat (first | refine blk_drewN ?_ _ | refine blk_drew ?_ | refine blk_alloc ?_ _)); refine blk_put (cs := #[.int .i64 0]) ?_ 0 _ rfl; (with_reducible repeat (first | refine blk_drewN ?_ _ | refine blk_drew ?_ | refine blk_alloc ?_ _)); exact BK133.out⟩, ⟨by repeat (first | (with_reducible first | exact HB.out | apply below_alloc | apply pw_below_drewN | apply below_drew1 | refine below_set ?_ GE122.out | refine below_set ?_ GE123.out | refine below_set ?_ GE124.out | refine below_set ?_ GE125.out | refine below_set ?_ GE133.out) | exact HB.out)⟩⟩
               ·rw [if_neg c71] at H
                have c71b0 : decide (4 < a0_4) = false := decide_eq_false c71
                clear c71
                have H' := Aside0.mk H
                clear H
                have hnb81 := NB124_122.out
                have hnc81 := NB122_124.out
                have hnb82 := NB124_123.out
                have hnc82 := NB123_124.out
                have hnb83 := NB124_125.out
                have hnc83 := NB125_124.out
                have hnb84 := NB124_133.out
                have hnc84 := NB133_124.out
                have hcz85_0 := cv BK124.out 0 (.string (s2_.extract (ji22 : Int).toNat s2_.size))
                have hfz85_0 := blk_frozen BK124.out 0
                have hnb86 := NB122_123.out
                have hnc86 := NB123_122.out
                have hnb87 := NB122_125.out
                have hnc87 := NB125_122.out
                have hnb88 := NB122_133.out
                have hnc88 := NB133_122.out
                obtain ⟨hcz89_0, hcz89_1, hcz89_2, hcz89_3, hcz89_4, hfz89_0, hfz89_1, hfz89_2, hfz89_3, hfz89_4⟩ := cq5 BK122.out
                go_wp2
                repeat (go_quiet (fail); try go_wp2)
                go_meet
                case rel => exact ⟨_, (decide (a0_1 > 32)), rs, H', ⟨by have := HK1.out; first | omega | exact Nat.le_refl _⟩, ⟨by (with_reducible repeat (first | apply Kd.R_alloc | apply Kd.R_drewN | apply Kd.R_drew)); exact Kd.R_mono (Kd.R_far (p := ⟨gb133, 0, none⟩) (Kd.R_mono HO_126000.out (fun k_ hk => (⟨hk, hk.2⟩ : _ ∧ k_ ≠ gb133))) (fun _ hk => hk.2) (.int .i64 ji53)) (fun _ hk => hk.1.2)⟩, ⟨by (with_reducible repeat (first | refine blk_drewN ?_ _ | refine blk_drew ?_ | refine blk_alloc ?_ _)); refine blk_far ?_ NB122_133.out _; (with_reducible repeat (first | refine blk_drewN ?_ _ | refine blk_drew ?_ | refine blk_alloc ?_ _)); exact BK122.out⟩, ⟨by (with_reducible repeat (first | refine blk_drewN ?_ _ | refine blk_drew ?_ | refine blk_alloc ?_ _)); refine blk_far ?_ NB123_133.out _; (with_reducible repeat (first | refine blk_drewN ?_ _ | refine blk_drew ?_ | refine blk_alloc ?_ _)); exact BK123.out⟩, ⟨by (with_reducible repeat (first | refine blk_drewN ?_ _ | refine blk_drew ?_ | refine blk_alloc ?_ _)); refine blk_far ?_ NB124_133.out _; (with_reducible repeat (first | refine blk_drewN ?_ _ | refine blk_drew ?_ | refine blk_alloc ?_ _)); exact BK124.out⟩, ⟨by (with_reducible repeat (first | refine blk_drewN ?_ _ | refine blk_drew ?_ | refine blk_alloc ?_ _)); refine blk_far ?_ NB125_133.out _; (with_reducible repeat (first | refine blk_drewN ?_ _ | refine blk_drew ?_ | refine blk_alloc ?_ _)); exact BK125.out⟩, ⟨by (with_reducible repeat (first | refine blk_drewN ?_ _ | refine blk_drew ?_ | refine blk_alloc ?_ _)); refine blk_put (cs := #[.int .i64 0]) ?_ 0 _ rfl; (with_reducible repeat (first | refine blk_drewN ?_ _ | refine blk_drew ?_ | refine blk_alloc ?_ _)); exact BK133.out⟩, ⟨by repeat (first | (with_reducible first | exact HB.out | apply below_alloc | apply pw_below_drewN | apply below_drew1 | refine below_set ?_ GE122.out | refine below_set ?_ GE123.out | refine below_set ?_ GE124.out | refine below_set ?_ GE125.out | refine below_set ?_ GE133.out) | exact HB.out)⟩⟩
              ·rw [if_neg c70] at H
               have c70b0 : (((s2_.extract (ji22 : Int).toNat s2_.size).size : Int) == (wrap64 ((wrap64 ((wrap64 (8 * (ji53))) * (ji54))) * (ji55)))) = false := beq_eq_false_iff_ne.mpr c70
               (try have c70z0 : (((s2_.size - (ji22 : Int).toNat : Nat) : Int) == (wrap64 ((wrap64 ((wrap64 (8 * (ji53))) * (ji54))) * (ji55)))) = false := by have h_ := c70b0; simp only [ByteArray.size_extract, Nat.min_self] at h_; exact h_)
               have c70b1 : (((s2_.extract (ji22 : Int).toNat s2_.size).size : Int) != (wrap64 ((wrap64 ((wrap64 (8 * (ji53))) * (ji54))) * (ji55)))) = true := bne_iff_ne.mpr c70
               (try have c70z1 : (((s2_.size - (ji22 : Int).toNat : Nat) : Int) != (wrap64 ((wrap64 ((wrap64 (8 * (ji53))) * (ji54))) * (ji55)))) = true := by have h_ := c70b1; simp only [ByteArray.size_extract, Nat.min_self] at h_; exact h_)
               (first | rw [c70b0] | (simp only [i64_w, i32_w]; rw [c70b0]) | skip)
               have H' := Aside0.mk H
               clear H
               have hnb90 := NB124_122.out
               have hnc90 := NB122_124.out
               have hnb91 := NB124_123.out
               have hnc91 := NB123_124.out
               have hnb92 := NB124_125.out
               have hnc92 := NB125_124.out
               have hnb93 := NB124_133.out
               have hnc93 := NB133_124.out
               have hcz94_0 := cv BK124.out 0 (.string (s2_.extract (ji22 : Int).toNat s2_.size))
               have hfz94_0 := blk_frozen BK124.out 0
               go_wp2
               repeat (go_quiet (fail); try go_wp2)
               go_meet
               case rel => exact ⟨_, (true), rs, H', ⟨by have := HK1.out; first | omega | exact Nat.le_refl _⟩, ⟨by (with_reducible repeat (first | apply Kd.R_alloc | apply Kd.R_drewN | apply Kd.R_drew)); exact Kd.R_mono (Kd.R_far (p := ⟨gb133, 0, none⟩) (Kd.R_mono HO_126000.out (fun k_ hk => (⟨hk, hk.2⟩ : _ ∧ k_ ≠ gb133))) (fun _ hk => hk.2) (.int .i64 ji53)) (fun _ hk => hk.1.2)⟩, ⟨by (with_reducible repeat (first | refine blk_drewN ?_ _ | refine blk_drew ?_ | refine blk_alloc ?_ _)); refine blk_far ?_ NB122_133.out _; (with_reducible repeat (first | refine blk_drewN ?_ _ | refine blk_drew ?_ | refine blk_alloc ?_ _)); exact BK122.out⟩, ⟨by (with_reducible repeat (first | refine blk_drewN ?_ _ | refine blk_drew ?_ | refine blk_alloc ?_ _)); refine blk_far ?_ NB123_133.out _; (with_reducible repeat (first | refine blk_drewN ?_ _ | refine blk_drew ?_ | refine blk_alloc ?_ _)); exact BK123.out⟩, ⟨by (with_reducible repeat (first | refine blk_drewN ?_ _ | refine blk_drew ?_ | refine blk_alloc ?_ _)); refine blk_far ?_ NB124_133.out _; (with_reducible repeat (first | refine blk_drewN ?_ _ | refine blk_drew ?_ | refine blk_alloc ?_ _)); exact BK124.out⟩, ⟨by (with_reducible repeat (first | refine blk_drewN ?_ _ | refine blk_drew ?_ | refine blk_alloc ?_ _)); refine blk_far ?_ NB125_133.out _; (with_reducible repeat (first | refine blk_drewN ?_ _ | refine blk_drew ?_ | refine blk_alloc ?_ _)); exact BK125.out⟩, ⟨by (with_reducible repeat (first | refine blk_drewN ?_ _ | refine blk_drew ?_ | refine blk_alloc ?_ _)); refine blk_put (cs := #[.int .i64 0]) ?_ 0 _ rfl; (with_reducible repeat (first | refine blk_drewN ?_ _ | refine blk_drew ?_ | refine blk_alloc ?_ _)); exact BK133.out⟩, ⟨by repeat (first | (with_reducible first | exact HB.out | apply below_alloc | apply pw_below_drewN | apply below_drew1 | refine below_set ?_ GE122.out | refine below_set ?_ GE123.out | refine below_set ?_ GE124.out | refine below_set ?_ GE125.out | refine below_set ?_ GE133.out) | exact HB.out)⟩⟩
             case rest =>
              clear HC56
              try clear c1
              try clear p1
              try clear q1
              try clear hx1
              try clear qi1
              try clear c2
              try clear p2
              try clear c3
              try clear c3b0
              try clear c3b1
              try clear c4
              try clear c5
              try clear c6
              try clear p6
              try clear c7
              try clear c8
              try clear c8b0
              try clear c8b1
              try clear c9
              try clear p9
              try clear q9
              try clear hx9
              try clear qi9
              try clear c10
              try clear c10b0
              try clear c10b1
              try clear p11
              try clear q11
              try clear hx11
              try clear qi11
              try clear c12
              try clear c12b0
              try clear c12b1
              try clear p12
              try clear q12
              try clear hx12
              try clear c13
              try clear c13b0
              try clear c16
              try clear c17
              try clear c18
              try clear c20
              try clear c23
              try clear c23b0
              try clear c23b1
              try clear c24
              try clear c24b0
              try clear c24b1
              try clear c29
              try clear c30
              try clear c33
              try clear c34
              try clear c35
              try clear c40
              try clear c40b0
              try clear c41
              try clear c41b0
              try clear c42
              try clear c42b0
              try clear c43
              try clear c44
              try clear c45
              try clear c46
              try clear c51
              try clear c51b0
              try clear c51b1
              try clear c52
              try clear c52b0
              try clear c52b1
              try clear c57
              try clear c58
              try clear c59
              try clear c62
              try clear c63
              try clear c64
              try clear p64
              try clear c65
              try clear c67
              try clear c68
              try clear c70
              try clear c70b0
              try clear c70b1
              try clear c71
              try clear c71b0
              try clear c72
              try clear c73
              try clear c74
              try clear c75
              try clear c77
              try clear c78
              try clear c79
              try clear c81
              try clear c82
              try clear c83
              try clear c84
              try clear c86
              try clear c87
              try clear c88
              try clear c90
              try clear c91
              try clear c92
              try clear c93
              try clear hcz19_0
              try clear hcz21_0
              try clear hcz21_1
              try clear hcz21_2
              try clear hcz21_3
              try clear hcz31_0
              try clear hcz36_0
              try clear hcz36_1
              try clear hcz36_2
              try clear hcz36_3
              try clear hcz37_0
              try clear hcz47_0
              try clear hcz47_1
              try clear hcz47_2
              try clear hcz47_3
              try clear hcz50_0
              try clear hcz50_1
              try clear hcz50_2
              try clear hcz50_3
              try clear hcz60_0
              try clear hcz66_0
              try clear hcz69_0
              try clear hcz69_1
              try clear hcz69_2
              try clear hcz69_3
              try clear hcz69_4
              try clear hcz76_0
              try clear hcz7_0
              try clear hcz7_1
              try clear hcz7_2
              try clear hcz7_3
              try clear hcz80_0
              try clear hcz80_1
              try clear hcz80_2
              try clear hcz80_3
              try clear hcz80_4
              try clear hcz85_0
              try clear hcz89_0
              try clear hcz89_1
              try clear hcz89_2
              try clear hcz89_3
              try clear hcz89_4
              try clear hcz94_0
              try clear hfz19_0
              try clear hfz21_0
              try clear hfz21_1
              try clear hfz21_2
              try clear hfz21_3
              try clear hfz31_0
              try clear hfz36_0
              try clear hfz36_1
              try clear hfz36_2
              try clear hfz36_3
              try clear hfz37_0
              try clear hfz47_0
              try clear hfz47_1
              try clear hfz47_2
              try clear hfz47_3
              try clear hfz50_0
              try clear hfz50_1
              try clear hfz50_2
              try clear hfz50_3
              try clear hfz60_0
              try clear hfz66_0
              try clear hfz69_0
              try clear hfz69_1
              try clear hfz69_2
              try clear hfz69_3
              try clear hfz69_4
              try clear hfz76_0
              try clear hfz7_0
              try clear hfz7_1
              try clear hfz7_2
              try clear hfz7_3
              try clear hfz80_0
              try clear hfz80_1
              try clear hfz80_2
              try clear hfz80_3
              try clear hfz80_4
              try clear hfz85_0
              try clear hfz89_0
              try clear hfz89_1
              try clear hfz89_2
              try clear hfz89_3
              try clear hfz89_4
              try clear hfz94_0
              try clear hx129_0
              try clear p1
              try clear p11
              try clear p129
              try clear p2
              try clear p6
              try clear p9
              try clear q1
              try clear q11
              try clear q129
              try clear q9
              obtain ⟨kq, x82_55, rfl, HA, HJ55, HO_126000, BK122, BK123, BK124, BK125, BK133, HB⟩ := hcut
              cases kq with
              | zero => exact absurd HA.out (by simp [block_Read.j1])
              | succ kj55 =>
               have H := HA.out
               clear HA
               simp only [block_Read.j1] at H
               by_cases c95 : x82_55 = true
               ·subst c95
                have H1 : (some (([] : List Int), 0, ([] : List (List (List Int))), ([] : List (List (List Int))), 6)) = some (r1, r2, r3, r4, r5) := by rw [if_pos rfl] at H; exact H
                clear H
                have H := H1
                clear H1
                simp only [Option.some.injEq, Prod.mk.injEq] at H
                obtain ⟨rfl, rfl, rfl, rfl, rfl⟩ := H
                have hnb96 := NB123_122.out
                have hnc96 := NB122_123.out
                have hnb97 := NB123_124.out
                have hnc97 := NB124_123.out
                have hnb98 := NB123_125.out
                have hnc98 := NB125_123.out
                have hnb99 := NB123_133.out
                have hnc99 := NB133_123.out
                obtain ⟨hcz100_0, hcz100_1, hcz100_2, hcz100_3, hfz100_0, hfz100_1, hfz100_2, hfz100_3⟩ := cq4 BK123.out
                go_wp2
                repeat (go_quiet (fail); try go_wp2)
                refine bodyPost_ret (results_ct rfl _ _ gb123 29 #[.slice none 0 0, .int .i64 0, .slice none 0 0, .slice none 0 0] (0, 0) _ rfl (bkp BK123.out) Try.underlying29 rfl (by kernel_rfl)) rfl ?_
                exact ⟨_, _, _, by first | rfl | (simp [errW_none, errW_some] <;> rfl) | (simp only [← hji22, ← hji53, ← hji54, ← hji55]; first | rfl | (simp [errW_none, errW_some] <;> rfl)) | (simp [*, errW_none, errW_some] <;> rfl), by first | exact Kd.R_nil _ _ _ _ _ | exact Kd.N_nil _ _ _ _ _ | exact Kd.V_nil _ _ _ _ _ | exact Kd.Q_nil _ _ _ _ _ | exact Kd.S_nil _ _ _ _ _, by first | exact Kd.R_nil _ _ _ _ _ | exact Kd.N_nil _ _ _ _ _ | exact Kd.V_nil _ _ _ _ _ | exact Kd.Q_nil _ _ _ _ _ | exact Kd.S_nil _ _ _ _ _, by first | exact Kd.R_nil _ _ _ _ _ | exact Kd.N_nil _ _ _ _ _ | exact Kd.V_nil _ _ _ _ _ | exact Kd.Q_nil _ _ _ _ _ | exact Kd.S_nil _ _ _ _ _, by repeat (first | (with_reducible first | exact HB.out | apply below_alloc | apply pw_below_drewN | apply below_drew1 | refine below_set ?_ GE122.out | refine below_set ?_ GE123.out | refine below_set ?_ GE124.out | refine below_set ?_ GE125.out | refine below_set ?_ GE133.out) | exact HB.out)⟩
               ·replace c95 := Bool.eq_false_iff.mpr c95
                subst c95
                have H1 : ((block_Read_1.f kj55 a0_0 a0_1 a0_2 a0_3 a0_4 ji53 (s2_.extract (ji22 : Int).toNat s2_.size)).bind fun bt134 => ((block_Read_1.f kj55 a0_0 a0_1 a0_2 a0_3 a0_4 ji53 bt134.2).bind fun bt138 => ((block_Check.f kj55 a0_0 a0_1 a0_2 a0_3 a0_4 x126000_1 (wrap64 (bt a1 1)) bt134.1 bt138.1).bind fun t142 => (if t142 = 0 then (some (x126000_1, (wrap64 (bt a1 1)), bt134.1, bt138.1, 0)) else (some (([] : List Int), 0, ([] : List (List (List Int))), ([] : List (List (List Int))), t142)))))) = some (r1, r2, r3, r4, r5) := by rw [if_neg (show ¬ (false = true) by decide)] at H; exact H
                clear H
                have H := H1
                clear H1
                replace H := Option.bind_eq_some_iff.mp H
                obtain ⟨⟨t134, t137⟩, A1010, H⟩ := H
                replace H : ((block_Read_1.f kj55 a0_0 a0_1 a0_2 a0_3 a0_4 ji53 t137).bind fun bt138 => ((block_Check.f kj55 a0_0 a0_1 a0_2 a0_3 a0_4 x126000_1 (wrap64 (bt a1 1)) t134 bt138.1).bind fun t142 => (if t142 = 0 then (some (x126000_1, (wrap64 (bt a1 1)), t134, bt138.1, 0)) else (some (([] : List Int), 0, ([] : List (List (List Int))), ([] : List (List (List Int))), t142))))) = some (r1, r2, r3, r4, r5) := H
                have A101 := Aside0.mk A1010
                clear A1010
                replace H := Option.bind_eq_some_iff.mp H
                obtain ⟨⟨t138, t141⟩, A1020, H⟩ := H
                replace H : ((block_Check.f kj55 a0_0 a0_1 a0_2 a0_3 a0_4 x126000_1 (wrap64 (bt a1 1)) t134 t138).bind fun t142 => (if t142 = 0 then (some (x126000_1, (wrap64 (bt a1 1)), t134, t138, 0)) else (some (([] : List Int), 0, ([] : List (List (List Int))), ([] : List (List (List Int))), t142)))) = some (r1, r2, r3, r4, r5) := H
                have A102 := Aside0.mk A1020
                clear A1020
                replace H := Option.bind_eq_some_iff.mp H
                obtain ⟨t142, A1030, H⟩ := H
                replace H : (if t142 = 0 then (some (x126000_1, (wrap64 (bt a1 1)), t134, t138, 0)) else (some (([] : List Int), 0, ([] : List (List (List Int))), ([] : List (List (List Int))), t142))) = some (r1, r2, r3, r4, r5) := H
                have A103 := Aside0.mk A1030
                clear A1030
                have HHq := Aside0.mk H
                clear H
                obtain ⟨Ao3, co3, eo3⟩ := Kd.R_slice HO_126000.out
                subst eo3
                go_upto_region 20 with ((go_at_call 43; (with_reducible refine (block_Read_1.calls kj55 gb122 gb133 gb124 a0_0 a0_1 a0_2 a0_3 a0_4 ji53 (s2_.extract (ji22 : Int).toNat s2_.size) t134 t137 _ (bk BK122.out) (bk BK133.out) (bk BK124.out) NB122_133.out NB122_124.out NB133_124.out A101.out).mono ?_); rintro e w61 ⟨v61, rfl, ho0, hb⟩; have n0_ := Aside0.mk (uc_R (rr HO_126000.out) (bk BK124.out) (by decide) hb); have n1_ := Aside0.mk (Kd.R_lower ho0 (below_size bel)); have n2_ := Aside0.mk (uc_blk (bk BK122.out) NB122_124.out hb); have n3_ := Aside0.mk (uc_blk (bk BK123.out) NB123_124.out hb); have n4_ := Aside0.mk (uc_self (bk BK124.out) hb); have n5_ := Aside0.mk (uc_blk (bk BK125.out) NB125_124.out hb); have n6_ := Aside0.mk (uc_blk (bk BK133.out) NB133_124.out hb); have n7_ := Aside0.mk (uc_B bel GE124.out hb); clear HO_126000 BK122 BK123 BK124 BK125 BK133 HB; have HO_126000 := n0_; have HOK := n1_; have BK122 := n2_; have BK123 := n3_; have BK124 := n4_; have BK125 := n5_; have BK133 := n6_; have HB := n7_; clear n0_ n1_ n2_ n3_ n4_ n5_ n6_ n7_; clear hb ho0; obtain ⟨Ao1, co1, eo1⟩ := Kd.R_slice HOK.out; subst eo1; obtain ⟨hcy0, hcy1, hcy2, hcy3, hfy0, hfy1, hfy2, hfy3⟩ := cq4 BK125.out))
                clear hcy0 hcy1 hcy2 hcy3 hfy0 hfy1 hfy2 hfy3
                have n0_ := Aside0.mk (Kd.R_set HO_126000.out BK125.out (by decide) 2 (.slice Ao1 t134.length co1))
                have n1_ := Aside0.mk (Kd.R_set HOK.out BK125.out (by decide) 2 (.slice Ao1 t134.length co1))
                have n2_ := Aside0.mk (blk_far BK122.out (p := ⟨gb125, 2, none⟩) NB122_125.out (.slice Ao1 t134.length co1))
                have n3_ := Aside0.mk (blk_far BK123.out (p := ⟨gb125, 2, none⟩) NB123_125.out (.slice Ao1 t134.length co1))
                have n4_ := Aside0.mk (blk_far BK124.out (p := ⟨gb125, 2, none⟩) NB124_125.out (.slice Ao1 t134.length co1))
                have n5_ := Aside0.mk (blk_put BK125.out 2 (.slice Ao1 t134.length co1) rfl)
                have n6_ := Aside0.mk (blk_far BK133.out (p := ⟨gb125, 2, none⟩) NB133_125.out (.slice Ao1 t134.length co1))
                have n7_ := Aside0.mk (below_set (j := 2) (v := .slice Ao1 t134.length co1) HB.out GE125.out)
                clear HO_126000 HOK BK122 BK123 BK124 BK125 BK133 HB
                generalize w61.setCell ⟨gb125, 2, none⟩ (.slice Ao1 t134.length co1) = w62 at n0_ n1_ n2_ n3_ n4_ n5_ n6_ n7_ ⊢
                have HO_126000 := n0_
                have HOK := n1_
                have BK122 := n2_
                have BK123 := n3_
                have BK124 := n4_
                have BK125 := n5_
                have BK133 := n6_
                have HB := n7_
                clear n0_ n1_ n2_ n3_ n4_ n5_ n6_ n7_
                go_upto_region 21 with ((go_at_call 43; (with_reducible refine (block_Read_1.calls kj55 gb122 gb133 gb124 a0_0 a0_1 a0_2 a0_3 a0_4 ji53 t137 t138 t141 _ (bk BK122.out) (bk BK133.out) (bk BK124.out) NB122_133.out NB122_124.out NB133_124.out A102.out).mono ?_); rintro e w63 ⟨v63, rfl, ho0, hb⟩; have n0_ := Aside0.mk (uc_R (rr HO_126000.out) (bk BK124.out) (by decide) hb); have n1_ := Aside0.mk (uc_elder (y := v63) (rr HOK.out) (bk BK124.out) (by decide) hb (Kd.R_base ho0)); have n8_ := Aside0.mk (Kd.R_lower (Kd.R_new' ho0 (Kd.R_lt (rr HOK.out))) (below_size bel)); have n2_ := Aside0.mk (uc_blk (bk BK122.out) NB122_124.out hb); have n3_ := Aside0.mk (uc_blk (bk BK123.out) NB123_124.out hb); have n4_ := Aside0.mk (uc_self (bk BK124.out) hb); have n5_ := Aside0.mk (uc_blk (bk BK125.out) NB125_124.out hb); have n6_ := Aside0.mk (uc_blk (bk BK133.out) NB133_124.out hb); have n7_ := Aside0.mk (uc_B bel GE124.out hb); clear HO_126000 HOK BK122 BK123 BK124 BK125 BK133 HB; have HO_126000 := n0_; have HOK := n1_; have HOV := n8_; have BK122 := n2_; have BK123 := n3_; have BK124 := n4_; have BK125 := n5_; have BK133 := n6_; have HB := n7_; clear n0_ n1_ n2_ n3_ n4_ n5_ n6_ n7_ n8_; clear hb ho0; obtain ⟨Ao2, co2, eo2⟩ := Kd.R_slice HOV.out; subst eo2; obtain ⟨hcy0, hcy1, hcy2, hcy3, hfy0, hfy1, hfy2, hfy3⟩ := cq4 BK125.out))
                clear hcy0 hcy1 hcy2 hcy3 hfy0 hfy1 hfy2 hfy3
                have n0_ := Aside0.mk (Kd.R_set HO_126000.out BK125.out (by decide) 3 (.slice Ao2 t138.length co2))
                have n1_ := Aside0.mk (Kd.R_set HOK.out BK125.out (by decide) 3 (.slice Ao2 t138.length co2))
                have n8_ := Aside0.mk (Kd.R_set HOV.out BK125.out (by decide) 3 (.slice Ao2 t138.length co2))
                have n2_ := Aside0.mk (blk_far BK122.out (p := ⟨gb125, 3, none⟩) NB122_125.out (.slice Ao2 t138.length co2))
                have n3_ := Aside0.mk (blk_far BK123.out (p := ⟨gb125, 3, none⟩) NB123_125.out (.slice Ao2 t138.length co2))
                have n5_ := Aside0.mk (blk_put BK125.out 3 (.slice Ao2 t138.length co2) rfl)
                have n7_ := Aside0.mk (below_set (j := 3) (v := .slice Ao2 t138.length co2) HB.out GE125.out)
                clear HO_126000 HOK HOV BK122 BK123 BK124 BK125 BK133 HB
                generalize w63.setCell ⟨gb125, 3, none⟩ (.slice Ao2 t138.length co2) = w64 at n0_ n1_ n2_ n3_ n5_ n7_ n8_ ⊢
                have HO_126000 := n0_
                have HOK := n1_
                have HOV := n8_
                have BK122 := n2_
                have BK123 := n3_
                have BK125 := n5_
                have HB := n7_
                clear n0_ n1_ n2_ n3_ n5_ n7_ n8_
                obtain ⟨hcx0, hcx1, hcx2, hcx3, hcx4, hfx0, hfx1, hfx2, hfx3, hfx4⟩ := cq5 BK122.out
                obtain ⟨hcy0, hcy1, hcy2, hcy3, hfy0, hfy1, hfy2, hfy3⟩ := cq4 BK125.out
                go_upto_region 22 with ((go_at_call 21; (with_reducible refine (block_Check.calls kj55 a0_0 a0_1 a0_2 a0_3 a0_4 _ _ x126000_1 (wrap64 (bt a1 1)) _ _ _ t134 _ _ _ t138 t142 _ (Kd.R_reads' HO_126000.out).2.2 (Kd.R_reads' HO_126000.out).2.1 (Kd.R_V HOK.out) (Kd.R_V HOV.out) A103.out).mono ?_); rintro e w65 ⟨rfl, hb⟩; have n0_ := Aside0.mk (Kd.R_below HO_126000.out hb); have n1_ := Aside0.mk (Kd.R_below HOK.out hb); have n2_ := Aside0.mk (Kd.R_below HOV.out hb); have n3_ := Aside0.mk (bkb BK123.out hb); have n4_ := Aside0.mk (bkb BK125.out hb); have n5_ := Aside0.mk (below_step bel hb); clear HO_126000 HOK HOV BK123 BK125 BK122 HB; have HO_126000 := n0_; have HOK := n1_; have HOV := n2_; have BK123 := n3_; have BK125 := n4_; have HB := n5_; clear n0_ n1_ n2_ n3_ n4_ n5_ hb))
                clear hcx0 hcx1 hcx2 hcx3 hcx4 hfx0 hfx1 hfx2 hfx3 hfx4 hcy0 hcy1 hcy2 hcy3 hfy0 hfy1 hfy2 hfy3
                have H := HHq.out
                clear HHq
                obtain ⟨hcr0, hcr1, hcr2, hcr3, hfr0, hfr1, hfr2, hfr3⟩ := cq4 BK123.out
                obtain ⟨hcy0, hcy1, hcy2, hcy3, hfy0, hfy1, hfy2, hfy3⟩ := cq4 BK125.out
                have hnbr := NB123_125.out
                have hncr := NB125_123.out
                by_cases ce : t142 = 0
                ·rw [if_pos ce] at H
                 have ceb : (t142 == 0) = true := beq_iff_eq.mpr ce
                 have cec : (t142 != 0) = false := bne_eq_false_iff_eq.mpr ce
                 clear ce
                 simp only [Option.some.injEq, Prod.mk.injEq] at H
                 obtain ⟨rfl, rfl, rfl, rfl, rfl⟩ := H
                 go_wp2
                 refine bodyPost_ret (results_ct rfl _ _ gb123 29 #[.slice Ao3 x126000_1.length co3, .int .i64 (wrap64 (bt a1 1)), .slice Ao1 t134.length co1, .slice Ao2 t138.length co2] (0, 0) _ rfl (bkp BK123.out) Try.underlying29 rfl (by kernel_rfl)) rfl ?_
                 exact ⟨_, _, _, by first | rfl | (simp; done), Kd.R_mono (Kd.R_set (Kd.R_set (Kd.R_set (Kd.R_set HO_126000.out BK123.out (by decide) 0 _) (blk_put BK123.out 0 _ rfl) (by decide) 1 _) (blk_put (blk_put BK123.out 0 _ rfl) 1 _ rfl) (by decide) 2 _) (blk_put (blk_put (blk_put BK123.out 0 _ rfl) 1 _ rfl) 2 _ rfl) (by decide) 3 _) (fun _ _ => trivial), Kd.R_mono (Kd.R_set (Kd.R_set (Kd.R_set (Kd.R_set HOK.out BK123.out (by decide) 0 _) (blk_put BK123.out 0 _ rfl) (by decide) 1 _) (blk_put (blk_put BK123.out 0 _ rfl) 1 _ rfl) (by decide) 2 _) (blk_put (blk_put (blk_put BK123.out 0 _ rfl) 1 _ rfl) 2 _ rfl) (by decide) 3 _) (fun _ hk => by first | exact hk.2 | exact hk.1 | (obtain ⟨h1_, h2_⟩ := hk; first | exact h2_ | exact h1_)), Kd.R_mono (Kd.R_set (Kd.R_set (Kd.R_set (Kd.R_set HOV.out BK123.out (by decide) 0 _) (blk_put BK123.out 0 _ rfl) (by decide) 1 _) (blk_put (blk_put BK123.out 0 _ rfl) 1 _ rfl) (by decide) 2 _) (blk_put (blk_put (blk_put BK123.out 0 _ rfl) 1 _ rfl) 2 _ rfl) (by decide) 3 _) (fun _ hk => by first | exact hk.2 | exact hk.1 | (obtain ⟨h1_, h2_⟩ := hk; first | exact h2_ | exact h1_)), by repeat (first | exact HB.out | refine below_set ?_ GE123.out)⟩
                ·rw [if_neg ce] at H
                 have ceb : (t142 == 0) = false := beq_eq_false_iff_ne.mpr ce
                 have cec : (t142 != 0) = true := bne_iff_ne.mpr ce
                 clear ce
                 simp only [Option.some.injEq, Prod.mk.injEq] at H
                 obtain ⟨rfl, rfl, rfl, rfl, rfl⟩ := H
                 go_wp2
                 refine bodyPost_ret (results_ct rfl _ _ gb123 29 #[.slice none 0 0, .int .i64 0, .slice none 0 0, .slice none 0 0] (0, 0) _ rfl (bkp BK123.out) Try.underlying29 rfl (by kernel_rfl)) rfl ?_
                 exact ⟨_, _, _, by first | rfl | (simp; done), Kd.R_nil _ _ _ _ _, Kd.R_nil _ _ _ _ _, Kd.R_nil _ _ _ _ _, by repeat (first | exact HB.out | refine below_set ?_ GE123.out)⟩
            ·rw [if_neg c52] at H
             exact absurd H (by simp)
           ·rw [if_neg c51] at H
            exact absurd H (by simp)
       ·rw [if_neg c24] at H
        exact absurd H (by simp)
      ·rw [if_neg c23] at H
       exact absurd H (by simp)
    ·rw [if_neg c12] at H
     exact absurd H (by simp)
   ·rw [if_neg c10] at H
    exact absurd H (by simp)
  ·rw [if_neg c8] at H
   exact absurd H (by simp)
end Go.Proofs.Ytepbebelbcbciaa.Q
