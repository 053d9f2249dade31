/- Functions of the program as plain Lean functions, each with a proof that the program's call comes to what it says; and rows of statements over them. No condition but those that the theorems name. Written by a program of this session (myprint.py, over the kit's print with patches of its own). -/
import Derived.Test.YtepbebelbcbciaaQx0
import Derived.Test.YtepbebelbcbciaaZWords
namespace Go.Proofs.Ytepbebelbcbciaa.Q
open Go.RowKit Go.Proofs.YtepbebelbcbciaaW.PrintWords Go.Proofs.YtepbebelbcbciaaW.PrintLast Go.Proofs.YtepbebelbcbciaaW.PrintMore
attribute [local go_sem] max2_int min2_int max_two min_two max_three min_three max_four min_four   -- for this text's walks alone
set_option linter.unusedVariables false
set_option linter.unusedSimpArgs false

/-! ### block_Check: function 21 -/
mutual
def block_Check.j0 : Nat → Int → Bool → Int → Int → Int → Int → Int → List Int → Int → List (List (List Int)) → List (List (List Int)) → Option (Int)
 | 0, _, _, _, _, _, _, _, _, _, _, _ => none
 | k + 1, x5, x54, x159000, x159001, x159002, x159003, x159004, x160000, x160001, x160002, x160003 => if x54 = true then (some 4) else (block_Check.l0 k x5 x160000 (x160000.length : Int) 0 x159000 x159001 x159002 x159003 x159004 x160000 x160001 x160002 x160003)
def block_Check.l0 : Nat → Int → List Int → Int → Int → Int → Int → Int → Int → Int → List Int → Int → List (List (List Int)) → List (List (List Int)) → Option (Int)
 | 0, _, _, _, _, _, _, _, _, _, _, _, _, _ => none
 | k + 1, x5, x56, x57, x58, x159000, x159001, x159002, x159003, x159004, x160000, x160001, x160002, x160003 => if x58 < x57 then (if 0 ≤ x58 then (if x58 < (x56.length : Int) then (if (rd x56 x58) < 0 then (some 7) else (if (rd x56 x58) ≥ x159000 then (some 7) else (block_Check.l0 k x5 x56 x57 (wrap64 (x58 + 1)) x159000 x159001 x159002 x159003 x159004 x160000 x160001 x160002 x160003))) else (none)) else (none)) else ((some (([x160002, x160003] : List (List (List (List Int)))) : List (List (List (List Int))))).bind fun y161 => (block_Check.l1 k x5 y161 (y161.length : Int) 0 x159000 x159001 x159002 x159003 x159004))
def block_Check.l1 : Nat → Int → List (List (List (List Int))) → Int → Int → Int → Int → Int → Int → Int → Option (Int)
 | 0, _, _, _, _, _, _, _, _, _ => none
 | k + 1, x5, x77, x78, x79, x159000, x159001, x159002, x159003, x159004 => if x79 < x78 then (if 0 ≤ x79 then (if x79 < (x77.length : Int) then (block_Check.l2 k x5 x77 x78 x79 (rd_L4 x77 x79) ((rd_L4 x77 x79).length : Int) 0 x159000 x159001 x159002 x159003 x159004) else (none)) else (none)) else (some 0)
def block_Check.l2 : Nat → Int → List (List (List (List Int))) → Int → Int → List (List (List Int)) → Int → Int → Int → Int → Int → Int → Int → Option (Int)
 | 0, _, _, _, _, _, _, _, _, _, _, _, _ => none
 | k + 1, x5, x77, x78, x79, x83, x84, x85, x159000, x159001, x159002, x159003, x159004 => if x85 < x84 then (if 0 ≤ x85 then (if x85 < (x83.length : Int) then (if ((rd_L3 x83 x85).length : Int) = x5 then (block_Check.l3 k x5 x77 x78 x79 x83 x84 x85 (rd_L3 x83 x85) ((rd_L3 x83 x85).length : Int) 0 x159000 x159001 x159002 x159003 x159004) else (some 4)) else (none)) else (none)) else (block_Check.l1 k x5 x77 x78 (wrap64 (x79 + 1)) x159000 x159001 x159002 x159003 x159004)
def block_Check.l3 : Nat → Int → List (List (List (List Int))) → Int → Int → List (List (List Int)) → Int → Int → List (List Int) → Int → Int → Int → Int → Int → Int → Int → Option (Int)
 | 0, _, _, _, _, _, _, _, _, _, _, _, _, _, _, _ => none
 | k + 1, x5, x77, x78, x79, x83, x84, x85, x93, x94, x95, x159000, x159001, x159002, x159003, x159004 => if x95 < x94 then (if 0 ≤ x95 then (if x95 < (x93.length : Int) then (if ((rd_L2 x93 x95).length : Int) = x159001 then (block_Check.l3 k x5 x77 x78 x79 x83 x84 x85 x93 x94 (wrap64 (x95 + 1)) x159000 x159001 x159002 x159003 x159004) else (some 4)) else (none)) else (none)) else (block_Check.l2 k x5 x77 x78 x79 x83 x84 (wrap64 (x85 + 1)) x159000 x159001 x159002 x159003 x159004)
end
def block_Check.f (k : Nat) (a0_0 : Int) (a0_1 : Int) (a0_2 : Int) (a0_3 : Int) (a0_4 : Int) (l1_0 : List Int) (a1_1 : Int) (l1_2 : List (List (List Int))) (l1_3 : List (List (List Int))) : Option (Int) := if a1_1 < 0 then (block_Check.j0 k (wrap64 ((l1_0.length : Int) - a1_1)) true a0_0 a0_1 a0_2 a0_3 a0_4 l1_0 a1_1 l1_2 l1_3) else (if (wrap64 ((l1_0.length : Int) - a1_1)) < 1 then (block_Check.j0 k (wrap64 ((l1_0.length : Int) - a1_1)) true a0_0 a0_1 a0_2 a0_3 a0_4 l1_0 a1_1 l1_2 l1_3) else (if (wrap64 ((l1_0.length : Int) - a1_1)) > 16 then (block_Check.j0 k (wrap64 ((l1_0.length : Int) - a1_1)) true a0_0 a0_1 a0_2 a0_3 a0_4 l1_0 a1_1 l1_2 l1_3) else (if (l1_0.length : Int) > 128 then (block_Check.j0 k (wrap64 ((l1_0.length : Int) - a1_1)) true a0_0 a0_1 a0_2 a0_3 a0_4 l1_0 a1_1 l1_2 l1_3) else (if (l1_2.length : Int) = a0_4 then (block_Check.j0 k (wrap64 ((l1_0.length : Int) - a1_1)) ((l1_3.length : Int) != a0_4) a0_0 a0_1 a0_2 a0_3 a0_4 l1_0 a1_1 l1_2 l1_3) else (block_Check.j0 k (wrap64 ((l1_0.length : Int) - a1_1)) true a0_0 a0_1 a0_2 a0_3 a0_4 l1_0 a1_1 l1_2 l1_3)))))
theorem block_Check.mono_l : ∀ k, (∀ y0 y1 y2 y3 y4 y5 y6 y7 y8 y9 y10, LeO (block_Check.j0 k y0 y1 y2 y3 y4 y5 y6 y7 y8 y9 y10) (block_Check.j0 (k + 1) y0 y1 y2 y3 y4 y5 y6 y7 y8 y9 y10)) ∧ (∀ y0 y1 y2 y3 y4 y5 y6 y7 y8 y9 y10 y11 y12, LeO (block_Check.l0 k y0 y1 y2 y3 y4 y5 y6 y7 y8 y9 y10 y11 y12) (block_Check.l0 (k + 1) y0 y1 y2 y3 y4 y5 y6 y7 y8 y9 y10 y11 y12)) ∧ (∀ y0 y1 y2 y3 y4 y5 y6 y7 y8, LeO (block_Check.l1 k y0 y1 y2 y3 y4 y5 y6 y7 y8) (block_Check.l1 (k + 1) y0 y1 y2 y3 y4 y5 y6 y7 y8)) ∧ (∀ y0 y1 y2 y3 y4 y5 y6 y7 y8 y9 y10 y11, LeO (block_Check.l2 k y0 y1 y2 y3 y4 y5 y6 y7 y8 y9 y10 y11) (block_Check.l2 (k + 1) y0 y1 y2 y3 y4 y5 y6 y7 y8 y9 y10 y11)) ∧ (∀ y0 y1 y2 y3 y4 y5 y6 y7 y8 y9 y10 y11 y12 y13 y14, LeO (block_Check.l3 k y0 y1 y2 y3 y4 y5 y6 y7 y8 y9 y10 y11 y12 y13 y14) (block_Check.l3 (k + 1) y0 y1 y2 y3 y4 y5 y6 y7 y8 y9 y10 y11 y12 y13 y14))
 | 0 => ⟨fun _ _ _ _ _ _ _ _ _ _ _ r h => by simp [block_Check.j0] at h, fun _ _ _ _ _ _ _ _ _ _ _ _ _ r h => by simp [block_Check.l0] at h, fun _ _ _ _ _ _ _ _ _ r h => by simp [block_Check.l1] at h, fun _ _ _ _ _ _ _ _ _ _ _ _ r h => by simp [block_Check.l2] at h, fun _ _ _ _ _ _ _ _ _ _ _ _ _ _ _ r h => by simp [block_Check.l3] at h⟩
 | k + 1 => by
  obtain ⟨ih0, ih1, ih2, ih3, ih4⟩ := block_Check.mono_l k
  refine ⟨?_, ?_, ?_, ?_, ?_⟩
  ·intro y0 y1 y2 y3 y4 y5 y6 y7 y8 y9 y10
   unfold block_Check.j0
   repeat' first
   | (with_reducible exact ih0 _ _ _ _ _ _ _ _ _ _ _)
   | (with_reducible exact ih1 _ _ _ _ _ _ _ _ _ _ _ _ _)
   | (with_reducible exact ih2 _ _ _ _ _ _ _ _ _)
   | (with_reducible exact ih3 _ _ _ _ _ _ _ _ _ _ _ _)
   | (with_reducible exact ih4 _ _ _ _ _ _ _ _ _ _ _ _ _ _ _)
   | (with_reducible exact LeO.refl _)
   | (with_reducible exact LeO.none _)
   | (with_reducible refine LeO.ite ?_ ?_)
   | (with_reducible refine LeO.bind ?_ (fun _ => ?_))
   | exact ih0 _ _ _ _ _ _ _ _ _ _ _
   | exact ih1 _ _ _ _ _ _ _ _ _ _ _ _ _
   | exact ih2 _ _ _ _ _ _ _ _ _
   | exact ih3 _ _ _ _ _ _ _ _ _ _ _ _
   | exact ih4 _ _ _ _ _ _ _ _ _ _ _ _ _ _ _
   | exact LeO.none _
   | refine LeO.ite ?_ ?_
   | refine LeO.bind ?_ (fun _ => ?_)
  ·intro y0 y1 y2 y3 y4 y5 y6 y7 y8 y9 y10 y11 y12
   unfold block_Check.l0
   repeat' first
   | (with_reducible exact ih0 _ _ _ _ _ _ _ _ _ _ _)
   | (with_reducible exact ih1 _ _ _ _ _ _ _ _ _ _ _ _ _)
   | (with_reducible exact ih2 _ _ _ _ _ _ _ _ _)
   | (with_reducible exact ih3 _ _ _ _ _ _ _ _ _ _ _ _)
   | (with_reducible exact ih4 _ _ _ _ _ _ _ _ _ _ _ _ _ _ _)
   | (with_reducible exact LeO.refl _)
   | (with_reducible exact LeO.none _)
   | (with_reducible refine LeO.ite ?_ ?_)
   | (with_reducible refine LeO.bind ?_ (fun _ => ?_))
   | exact ih0 _ _ _ _ _ _ _ _ _ _ _
   | exact ih1 _ _ _ _ _ _ _ _ _ _ _ _ _
   | exact ih2 _ _ _ _ _ _ _ _ _
   | exact ih3 _ _ _ _ _ _ _ _ _ _ _ _
   | exact ih4 _ _ _ _ _ _ _ _ _ _ _ _ _ _ _
   | exact LeO.none _
   | refine LeO.ite ?_ ?_
   | refine LeO.bind ?_ (fun _ => ?_)
  ·intro y0 y1 y2 y3 y4 y5 y6 y7 y8
   unfold block_Check.l1
   repeat' first
   | (with_reducible exact ih0 _ _ _ _ _ _ _ _ _ _ _)
   | (with_reducible exact ih1 _ _ _ _ _ _ _ _ _ _ _ _ _)
   | (with_reducible exact ih2 _ _ _ _ _ _ _ _ _)
   | (with_reducible exact ih3 _ _ _ _ _ _ _ _ _ _ _ _)
   | (with_reducible exact ih4 _ _ _ _ _ _ _ _ _ _ _ _ _ _ _)
   | (with_reducible exact LeO.refl _)
   | (with_reducible exact LeO.none _)
   | (with_reducible refine LeO.ite ?_ ?_)
   | (with_reducible refine LeO.bind ?_ (fun _ => ?_))
   | exact ih0 _ _ _ _ _ _ _ _ _ _ _
   | exact ih1 _ _ _ _ _ _ _ _ _ _ _ _ _
   | exact ih2 _ _ _ _ _ _ _ _ _
   | exact ih3 _ _ _ _ _ _ _ _ _ _ _ _
   | exact ih4 _ _ _ _ _ _ _ _ _ _ _ _ _ _ _
   | exact LeO.none _
   | refine LeO.ite ?_ ?_
   | refine LeO.bind ?_ (fun _ => ?_)
  ·intro y0 y1 y2 y3 y4 y5 y6 y7 y8 y9 y10 y11
   unfold block_Check.l2
   repeat' first
   | (with_reducible exact ih0 _ _ _ _ _ _ _ _ _ _ _)
   | (with_reducible exact ih1 _ _ _ _ _ _ _ _ _ _ _ _ _)
   | (with_reducible exact ih2 _ _ _ _ _ _ _ _ _)
   | (with_reducible exact ih3 _ _ _ _ _ _ _ _ _ _ _ _)
   | (with_reducible exact ih4 _ _ _ _ _ _ _ _ _ _ _ _ _ _ _)
   | (with_reducible exact LeO.refl _)
   | (with_reducible exact LeO.none _)
   | (with_reducible refine LeO.ite ?_ ?_)
   | (with_reducible refine LeO.bind ?_ (fun _ => ?_))
   | exact ih0 _ _ _ _ _ _ _ _ _ _ _
   | exact ih1 _ _ _ _ _ _ _ _ _ _ _ _ _
   | exact ih2 _ _ _ _ _ _ _ _ _
   | exact ih3 _ _ _ _ _ _ _ _ _ _ _ _
   | exact ih4 _ _ _ _ _ _ _ _ _ _ _ _ _ _ _
   | exact LeO.none _
   | refine LeO.ite ?_ ?_
   | refine LeO.bind ?_ (fun _ => ?_)
  ·intro y0 y1 y2 y3 y4 y5 y6 y7 y8 y9 y10 y11 y12 y13 y14
   unfold block_Check.l3
   repeat' first
   | (with_reducible exact ih0 _ _ _ _ _ _ _ _ _ _ _)
   | (with_reducible exact ih1 _ _ _ _ _ _ _ _ _ _ _ _ _)
   | (with_reducible exact ih2 _ _ _ _ _ _ _ _ _)
   | (with_reducible exact ih3 _ _ _ _ _ _ _ _ _ _ _ _)
   | (with_reducible exact ih4 _ _ _ _ _ _ _ _ _ _ _ _ _ _ _)
   | (with_reducible exact LeO.refl _)
   | (with_reducible exact LeO.none _)
   | (with_reducible refine LeO.ite ?_ ?_)
   | (with_reducible refine LeO.bind ?_ (fun _ => ?_))
   | exact ih0 _ _ _ _ _ _ _ _ _ _ _
   | exact ih1 _ _ _ _ _ _ _ _ _ _ _ _ _
   | exact ih2 _ _ _ _ _ _ _ _ _
   | exact ih3 _ _ _ _ _ _ _ _ _ _ _ _
   | exact ih4 _ _ _ _ _ _ _ _ _ _ _ _ _ _ _
   | exact LeO.none _
   | refine LeO.ite ?_ ?_
   | refine LeO.bind ?_ (fun _ => ?_)
theorem block_Check.mono : ∀ a0 a1 a2 a3 a4 a5 a6 a7 a8 k, LeO (block_Check.f k a0 a1 a2 a3 a4 a5 a6 a7 a8) (block_Check.f (k + 1) a0 a1 a2 a3 a4 a5 a6 a7 a8) := by
 intro a0 a1 a2 a3 a4 a5 a6 a7 a8 k
 obtain ⟨ih0, ih1, ih2, ih3, ih4⟩ := block_Check.mono_l k
 unfold block_Check.f
 repeat' first
   | (with_reducible exact ih0 _ _ _ _ _ _ _ _ _ _ _)
   | (with_reducible exact ih1 _ _ _ _ _ _ _ _ _ _ _ _ _)
   | (with_reducible exact ih2 _ _ _ _ _ _ _ _ _)
   | (with_reducible exact ih3 _ _ _ _ _ _ _ _ _ _ _ _)
   | (with_reducible exact ih4 _ _ _ _ _ _ _ _ _ _ _ _ _ _ _)
   | (with_reducible exact LeO.refl _)
   | (with_reducible exact LeO.none _)
   | (with_reducible refine LeO.ite ?_ ?_)
   | (with_reducible refine LeO.bind ?_ (fun _ => ?_))
   | exact ih0 _ _ _ _ _ _ _ _ _ _ _
   | exact ih1 _ _ _ _ _ _ _ _ _ _ _ _ _
   | exact ih2 _ _ _ _ _ _ _ _ _
   | exact ih3 _ _ _ _ _ _ _ _ _ _ _ _
   | exact ih4 _ _ _ _ _ _ _ _ _ _ _ _ _ _ _
   | exact LeO.none _
   | refine LeO.ite ?_ ?_
   | refine LeO.bind ?_ (fun _ => ?_)
set_option maxHeartbeats 8000000 in
set_option maxRecDepth 100000 in
theorem block_Check.calls (k : Nat) (a0_0 : Int) (a0_1 : Int) (a0_2 : Int) (a0_3 : Int) (a0_4 : Int) (A1_0 : Option Addr) (c1_0 : Nat) (l1_0 : List Int) (a1_1 : Int) (P1_2_ : Nat → Prop) (A1_2 : Option Addr) (c1_2 : Nat) (l1_2 : List (List (List Int))) (P1_3_ : Nat → Prop) (A1_3 : Option Addr) (c1_3 : Nat) (l1_3 : List (List (List Int))) (r : Int) (w : World) (hr1_0 : Kd.C (Kd.int .i64) w A1_0 l1_0.length l1_0) (hc1_0 : l1_0.length ≤ c1_0) (hs1_2 : Kd.V (Kd.slice 61 (Kd.slice 72 (Kd.int .i32))) 62 w w.heap.size (fun k_ => P1_2_ k_) (.slice A1_2 l1_2.length c1_2) l1_2) (hs1_3 : Kd.V (Kd.slice 61 (Kd.slice 72 (Kd.int .i32))) 62 w w.heap.size (fun k_ => P1_3_ k_) (.slice A1_3 l1_3.length c1_3) l1_3) (h : block_Check.f k a0_0 a0_1 a0_2 a0_3 a0_4 l1_0 a1_1 l1_2 l1_3 = some r) :
  Calls Try.prog 21 #[.agg #[.int .i64 a0_0, .int .i64 a0_1, .int .i64 a0_2, .int .i64 a0_3, .int .i64 a0_4], .agg #[.slice A1_0 l1_0.length c1_0, .int .i64 a1_1, .slice A1_2 l1_2.length c1_2, .slice A1_3 l1_3.length c1_3]] w fun e w' => e = .returned (.int .i64 r) ∧ Below w.heap.size w w' := by
 have hu23 := Try.underlying23
 have hu29 := Try.underlying29
 have HR1_0 := Aside0.mk hr1_0
 have HC1_0 := Aside0.mk hc1_0
 clear hr1_0 hc1_0
 have HO1_2 := Aside0.mk (show Kd.V (Kd.slice 61 (Kd.slice 72 (Kd.int .i32))) 62 w w.heap.size (fun k_ => ((P1_2_ k_ ∨ P1_3_ k_) ∨ w.heap.size ≤ k_)) (.slice A1_2 l1_2.length c1_2) l1_2 from Kd.V_mono hs1_2 (fun k_ hk => .inl (.inl hk)))
 have HO1_3 := Aside0.mk (show Kd.V (Kd.slice 61 (Kd.slice 72 (Kd.int .i32))) 62 w w.heap.size (fun k_ => ((P1_2_ k_ ∨ P1_3_ k_) ∨ w.heap.size ≤ k_)) (.slice A1_3 l1_3.length c1_3) l1_3 from Kd.V_mono hs1_3 (fun k_ hk => .inl (.inr hk)))
 have HB := Aside0.mk (Below.refl w.heap.size w)
 have H : (if a1_1 < 0 then (block_Check.j0 k (wrap64 ((l1_0.length : Int) - a1_1)) true a0_0 a0_1 a0_2 a0_3 a0_4 l1_0 a1_1 l1_2 l1_3) else (if (wrap64 ((l1_0.length : Int) - a1_1)) < 1 then (block_Check.j0 k (wrap64 ((l1_0.length : Int) - a1_1)) true a0_0 a0_1 a0_2 a0_3 a0_4 l1_0 a1_1 l1_2 l1_3) else (if (wrap64 ((l1_0.length : Int) - a1_1)) > 16 then (block_Check.j0 k (wrap64 ((l1_0.length : Int) - a1_1)) true a0_0 a0_1 a0_2 a0_3 a0_4 l1_0 a1_1 l1_2 l1_3) else (if (l1_0.length : Int) > 128 then (block_Check.j0 k (wrap64 ((l1_0.length : Int) - a1_1)) true a0_0 a0_1 a0_2 a0_3 a0_4 l1_0 a1_1 l1_2 l1_3) else (if (l1_2.length : Int) = a0_4 then (block_Check.j0 k (wrap64 ((l1_0.length : Int) - a1_1)) ((l1_3.length : Int) != a0_4) a0_0 a0_1 a0_2 a0_3 a0_4 l1_0 a1_1 l1_2 l1_3) else (block_Check.j0 k (wrap64 ((l1_0.length : Int) - a1_1)) true a0_0 a0_1 a0_2 a0_3 a0_4 l1_0 a1_1 l1_2 l1_3)))))) = some r := h
 clear h
 have HC3 := Aside0.mk H
 clear H
 go_enter Try.func21, Try.ntmps21
 go_upto_region 2 with (first | ((with_reducible refine gate_dst (N := 2) rfl ?_); (try (refine gate_guard (by rfl) ?_; dsimp only)); refine bxe (N := 2) (cs := #[.int .i64 a0_0, .int .i64 a0_1, .int .i64 a0_2, .int .i64 a0_3, .int .i64 a0_4]) (t := 23) ?_; intro gb158 hg w4 hbox hb; have n0_ := Aside0.mk (Kd.V_below (Kd.V_elderB (by (with_reducible repeat (first | apply Kd.V_alloc | apply Kd.V_drewN | apply Kd.V_drew)); exact HO1_2.out) gb158 (Nat.le_of_eq hg.symm)) hb); have n1_ := Aside0.mk (Kd.V_below (Kd.V_elderB (by (with_reducible repeat (first | apply Kd.V_alloc | apply Kd.V_drewN | apply Kd.V_drew)); exact HO1_3.out) gb158 (Nat.le_of_eq hg.symm)) hb); have n2_ := Aside0.mk (below_step bel hb); have n3_ := Aside0.mk (hbox); have n4_ := Aside0.mk ((bsz hg : w.heap.size ≤ gb158)); have n5_ := Aside0.mk ((bsz hg : w.heap.size ≤ gb158)); clear HO1_2; clear HO1_3; clear HB; have HO1_2 := n0_; have HO1_3 := n1_; have HB := n2_; have BK158 := n3_; have GW158 := n4_; have GE158 := n5_; clear n0_ n1_ n2_ n3_ n4_ n5_; clear hb hbox hg) | ((with_reducible refine gate_dst (N := 3) rfl ?_); (try (refine gate_guard (by rfl) ?_; dsimp only)); refine bxe (N := 3) (cs := #[.slice A1_0 l1_0.length c1_0, .int .i64 a1_1, .slice A1_2 l1_2.length c1_2, .slice A1_3 l1_3.length c1_3]) (t := 29) ?_; intro gb159 hg w5 hbox hb; have n0_ := Aside0.mk (Kd.V_below (Kd.V_elderB (by (with_reducible repeat (first | apply Kd.V_alloc | apply Kd.V_drewN | apply Kd.V_drew)); exact HO1_2.out) gb159 (Nat.le_of_eq hg.symm)) hb); have n1_ := Aside0.mk (Kd.V_below (Kd.V_elderB (by (with_reducible repeat (first | apply Kd.V_alloc | apply Kd.V_drewN | apply Kd.V_drew)); exact HO1_3.out) gb159 (Nat.le_of_eq hg.symm)) hb); have n2_ := Aside0.mk (bkb BK158.out hb); have n3_ := Aside0.mk (below_step bel hb); have n4_ := Aside0.mk (hbox); have n5_ := Aside0.mk ((bsz hg : w.heap.size ≤ gb159)); have n6_ := Aside0.mk ((bsz hg : w.heap.size ≤ gb159)); have n7_ := Aside0.mk ((nel BK158.out hg : gb158 ≠ gb159)); have n8_ := Aside0.mk ((neg_ BK158.out hg : gb159 ≠ gb158)); clear HO1_2; clear HO1_3; clear BK158; clear HB; have HO1_2 := n0_; have HO1_3 := n1_; have BK158 := n2_; have HB := n3_; have BK159 := n4_; have GW159 := n5_; have GE159 := n6_; have NB158_159 := n7_; have NB159_158 := n8_; clear n0_ n1_ n2_ n3_ n4_ n5_ n6_ n7_ n8_; clear hb hbox hg; have hnb6 := NB159_158.out; have hnc6 := NB158_159.out; obtain ⟨hcz7_0, hcz7_1, hcz7_2, hcz7_3, hfz7_0, hfz7_1, hfz7_2, hfz7_3⟩ := cq4 BK159.out))
 (try simp only [Act.put, List.setIfInBounds_toArray, List.set_cons_zero, List.set_cons_succ])
 go_cut [54] (fun v54 wc => ∃ (kq : Nat) (x54_2 : Bool), v54 = .bool x54_2 ∧ Aside0 (block_Check.j0 kq (wrap64 ((l1_0.length : Int) - a1_1)) x54_2 a0_0 a0_1 a0_2 a0_3 a0_4 l1_0 a1_1 l1_2 l1_3 = some r) ∧ Aside0 (kq ≤ k) ∧ Aside0 (Kd.V (Kd.slice 61 (Kd.slice 72 (Kd.int .i32))) 62 wc w.heap.size (fun k_ => ((P1_2_ k_ ∨ P1_3_ k_) ∨ w.heap.size ≤ k_) ∧ k_ ≠ gb158 ∧ k_ ≠ gb159) (.slice A1_2 l1_2.length c1_2) l1_2) ∧ Aside0 (Kd.V (Kd.slice 61 (Kd.slice 72 (Kd.int .i32))) 62 wc w.heap.size (fun k_ => ((P1_2_ k_ ∨ P1_3_ k_) ∨ w.heap.size ≤ k_) ∧ k_ ≠ gb158 ∧ k_ ≠ gb159) (.slice A1_3 l1_3.length c1_3) l1_3) ∧ Aside0 (wc.heap[gb158]? = some (.cells #[.int .i64 a0_0, .int .i64 a0_1, .int .i64 a0_2, .int .i64 a0_3, .int .i64 a0_4] 23 (0, 0))) ∧ Aside0 (wc.heap[gb159]? = some (.cells #[(.slice A1_0 l1_0.length c1_0), .int .i64 a1_1, (.slice A1_2 l1_2.length c1_2), (.slice A1_3 l1_3.length c1_3)] 29 (0, 0))) ∧ Aside0 (Below w.heap.size w wc))
 case first =>
  have H := HC3.out
  clear HC3
  by_cases c8 : a1_1 < 0
  ·rw [if_pos c8] at H
   have c8b0 : decide (a1_1 < 0) = true := decide_eq_true c8
   clear c8
   (first | rw [c8b0] | (simp only [i64_w, i32_w]; rw [c8b0]) | skip)
   have H' := Aside0.mk H
   clear H
   have hnb9 := NB159_158.out
   have hnc9 := NB158_159.out
   obtain ⟨hcz10_0, hcz10_1, hcz10_2, hcz10_3, hfz10_0, hfz10_1, hfz10_2, hfz10_3⟩ := cq4 BK159.out
   go_wp2
   go_meet
   case rel => exact ⟨_, (true), rs, H', ⟨by first | omega | exact Nat.le_refl _⟩, ⟨by (with_reducible repeat (first | apply Kd.V_alloc | apply Kd.V_drewN | apply Kd.V_drew)); exact Kd.V_mono HO1_2.out (fun _ hk => ⟨hk.1.1, ⟨hk.1.2, hk.2⟩⟩)⟩, ⟨by (with_reducible repeat (first | apply Kd.V_alloc | apply Kd.V_drewN | apply Kd.V_drew)); exact Kd.V_mono HO1_3.out (fun _ hk => ⟨hk.1.1, ⟨hk.1.2, hk.2⟩⟩)⟩, ⟨by (with_reducible repeat (first | refine blk_drewN ?_ _ | refine blk_drew ?_ | refine blk_alloc ?_ _)); exact BK158.out⟩, ⟨by (with_reducible repeat (first | refine blk_drewN ?_ _ | refine blk_drew ?_ | refine blk_alloc ?_ _)); exact BK159.out⟩, ⟨by repeat (first | (with_reducible first | exact HB.out | apply below_alloc | apply pw_below_drewN | apply below_drew1 | refine below_set ?_ GE158.out | refine below_set ?_ GE159.out) | exact HB.out)⟩⟩
  ·rw [if_neg c8] at H
   have c8b0 : decide (a1_1 < 0) = false := decide_eq_false c8
   clear c8
   (first | rw [c8b0] | (simp only [i64_w, i32_w]; rw [c8b0]) | skip)
   by_cases c11 : (wrap64 ((l1_0.length : Int) - a1_1)) < 1
   ·rw [if_pos c11] at H
    have c11b0 : decide ((wrap64 ((l1_0.length : Int) - a1_1)) < 1) = true := decide_eq_true c11
    clear c11
    have H' := Aside0.mk H
    clear H
    have hnb12 := NB159_158.out
    have hnc12 := NB158_159.out
    obtain ⟨hcz13_0, hcz13_1, hcz13_2, hcz13_3, hfz13_0, hfz13_1, hfz13_2, hfz13_3⟩ := cq4 BK159.out
    go_wp2
    go_meet
    case rel => exact ⟨_, (true), rs, H', ⟨by first | omega | exact Nat.le_refl _⟩, ⟨by (with_reducible repeat (first | apply Kd.V_alloc | apply Kd.V_drewN | apply Kd.V_drew)); exact Kd.V_mono HO1_2.out (fun _ hk => ⟨hk.1.1, ⟨hk.1.2, hk.2⟩⟩)⟩, ⟨by (with_reducible repeat (first | apply Kd.V_alloc | apply Kd.V_drewN | apply Kd.V_drew)); exact Kd.V_mono HO1_3.out (fun _ hk => ⟨hk.1.1, ⟨hk.1.2, hk.2⟩⟩)⟩, ⟨by (with_reducible repeat (first | refine blk_drewN ?_ _ | refine blk_drew ?_ | refine blk_alloc ?_ _)); exact BK158.out⟩, ⟨by (with_reducible repeat (first | refine blk_drewN ?_ _ | refine blk_drew ?_ | refine blk_alloc ?_ _)); exact BK159.out⟩, ⟨by repeat (first | (with_reducible first | exact HB.out | apply below_alloc | apply pw_below_drewN | apply below_drew1 | refine below_set ?_ GE158.out | refine below_set ?_ GE159.out) | exact HB.out)⟩⟩
   ·rw [if_neg c11] at H
    have c11b0 : decide ((wrap64 ((l1_0.length : Int) - a1_1)) < 1) = false := decide_eq_false c11
    clear c11
    by_cases c14 : (wrap64 ((l1_0.length : Int) - a1_1)) > 16
    ·rw [if_pos c14] at H
     have c14b0 : decide (16 < (wrap64 ((l1_0.length : Int) - a1_1))) = true := decide_eq_true c14
     clear c14
     have H' := Aside0.mk H
     clear H
     have hnb15 := NB159_158.out
     have hnc15 := NB158_159.out
     obtain ⟨hcz16_0, hcz16_1, hcz16_2, hcz16_3, hfz16_0, hfz16_1, hfz16_2, hfz16_3⟩ := cq4 BK159.out
     go_wp2
     go_meet
     case rel => exact ⟨_, (true), rs, H', ⟨by first | omega | exact Nat.le_refl _⟩, ⟨by (with_reducible repeat (first | apply Kd.V_alloc | apply Kd.V_drewN | apply Kd.V_drew)); exact Kd.V_mono HO1_2.out (fun _ hk => ⟨hk.1.1, ⟨hk.1.2, hk.2⟩⟩)⟩, ⟨by (with_reducible repeat (first | apply Kd.V_alloc | apply Kd.V_drewN | apply Kd.V_drew)); exact Kd.V_mono HO1_3.out (fun _ hk => ⟨hk.1.1, ⟨hk.1.2, hk.2⟩⟩)⟩, ⟨by (with_reducible repeat (first | refine blk_drewN ?_ _ | refine blk_drew ?_ | refine blk_alloc ?_ _)); exact BK158.out⟩, ⟨by (with_reducible repeat (first | refine blk_drewN ?_ _ | refine blk_drew ?_ | refine blk_alloc ?_ _)); exact BK159.out⟩, ⟨by repeat (first | (with_reducible first | exact HB.out | apply below_alloc | apply pw_below_drewN | apply below_drew1 | refine below_set ?_ GE158.out | refine below_set ?_ GE159.out) | exact HB.out)⟩⟩
    ·rw [if_neg c14] at H
     have c14b0 : decide (16 < (wrap64 ((l1_0.length : Int) - a1_1))) = false := decide_eq_false c14
     clear c14
     by_cases c17 : (l1_0.length : Int) > 128
     ·rw [if_pos c17] at H
      have c17b0 : decide (128 < (l1_0.length : Int)) = true := decide_eq_true c17
      have c17b1 : decide (128 < l1_0.length) = true := decide_eq_true (by omega)
      clear c17
      have H' := Aside0.mk H
      clear H
      have hnb18 := NB159_158.out
      have hnc18 := NB158_159.out
      obtain ⟨hcz19_0, hcz19_1, hcz19_2, hcz19_3, hfz19_0, hfz19_1, hfz19_2, hfz19_3⟩ := cq4 BK159.out
      go_wp2
      go_meet
      case rel => exact ⟨_, (true), rs, H', ⟨by first | omega | exact Nat.le_refl _⟩, ⟨by (with_reducible repeat (first | apply Kd.V_alloc | apply Kd.V_drewN | apply Kd.V_drew)); exact Kd.V_mono HO1_2.out (fun _ hk => ⟨hk.1.1, ⟨hk.1.2, hk.2⟩⟩)⟩, ⟨by (with_reducible repeat (first | apply Kd.V_alloc | apply Kd.V_drewN | apply Kd.V_drew)); exact Kd.V_mono HO1_3.out (fun _ hk => ⟨hk.1.1, ⟨hk.1.2, hk.2⟩⟩)⟩, ⟨by (with_reducible repeat (first | refine blk_drewN ?_ _ | refine blk_drew ?_ | refine blk_alloc ?_ _)); exact BK158.out⟩, ⟨by (with_reducible repeat (first | refine blk_drewN ?_ _ | refine blk_drew ?_ | refine blk_alloc ?_ _)); exact BK159.out⟩, ⟨by repeat (first | (with_reducible first | exact HB.out | apply below_alloc | apply pw_below_drewN | apply below_drew1 | refine below_set ?_ GE158.out | refine below_set ?_ GE159.out) | exact HB.out)⟩⟩
     ·rw [if_neg c17] at H
      have c17b0 : decide (128 < (l1_0.length : Int)) = false := decide_eq_false c17
      have c17b1 : decide (128 < l1_0.length) = false := decide_eq_false (by omega)
      clear c17
      by_cases c20 : (l1_2.length : Int) = a0_4
      ·rw [if_pos c20] at H
       have c20b0 : ((l1_2.length : Int) == a0_4) = true := beq_iff_eq.mpr c20
       have c20b1 : ((l1_2.length : Int) != a0_4) = false := bne_eq_false_iff_eq.mpr c20
       clear c20
       have H' := Aside0.mk H
       clear H
       have hnb21 := NB159_158.out
       have hnc21 := NB158_159.out
       obtain ⟨hcz22_0, hcz22_1, hcz22_2, hcz22_3, hfz22_0, hfz22_1, hfz22_2, hfz22_3⟩ := cq4 BK159.out
       obtain ⟨hcz23_0, hcz23_1, hcz23_2, hcz23_3, hcz23_4, hfz23_0, hfz23_1, hfz23_2, hfz23_3, hfz23_4⟩ := cq5 BK158.out
       go_wp2
       go_meet
       case rel => exact ⟨_, (((l1_3.length : Int) != a0_4)), rs, H', ⟨by first | omega | exact Nat.le_refl _⟩, ⟨by (with_reducible repeat (first | apply Kd.V_alloc | apply Kd.V_drewN | apply Kd.V_drew)); exact Kd.V_mono HO1_2.out (fun _ hk => ⟨hk.1.1, ⟨hk.1.2, hk.2⟩⟩)⟩, ⟨by (with_reducible repeat (first | apply Kd.V_alloc | apply Kd.V_drewN | apply Kd.V_drew)); exact Kd.V_mono HO1_3.out (fun _ hk => ⟨hk.1.1, ⟨hk.1.2, hk.2⟩⟩)⟩, ⟨by (with_reducible repeat (first | refine blk_drewN ?_ _ | refine blk_drew ?_ | refine blk_alloc ?_ _)); exact BK158.out⟩, ⟨by (with_reducible repeat (first | refine blk_drewN ?_ _ | refine blk_drew ?_ | refine blk_alloc ?_ _)); exact BK159.out⟩, ⟨by repeat (first | (with_reducible first | exact HB.out | apply below_alloc | apply pw_below_drewN | apply below_drew1 | refine below_set ?_ GE158.out | refine below_set ?_ GE159.out) | exact HB.out)⟩⟩
      ·rw [if_neg c20] at H
       have c20b0 : ((l1_2.length : Int) == a0_4) = false := beq_eq_false_iff_ne.mpr c20
       have c20b1 : ((l1_2.length : Int) != a0_4) = true := bne_iff_ne.mpr c20
       have H' := Aside0.mk H
       clear H
       have hnb24 := NB159_158.out
       have hnc24 := NB158_159.out
       obtain ⟨hcz25_0, hcz25_1, hcz25_2, hcz25_3, hfz25_0, hfz25_1, hfz25_2, hfz25_3⟩ := cq4 BK159.out
       obtain ⟨hcz26_0, hcz26_1, hcz26_2, hcz26_3, hcz26_4, hfz26_0, hfz26_1, hfz26_2, hfz26_3, hfz26_4⟩ := cq5 BK158.out
       go_wp2
       go_meet
       case rel => exact ⟨_, (true), rs, H', ⟨by first | omega | exact Nat.le_refl _⟩, ⟨by (with_reducible repeat (first | apply Kd.V_alloc | apply Kd.V_drewN | apply Kd.V_drew)); exact Kd.V_mono HO1_2.out (fun _ hk => ⟨hk.1.1, ⟨hk.1.2, hk.2⟩⟩)⟩, ⟨by (with_reducible repeat (first | apply Kd.V_alloc | apply Kd.V_drewN | apply Kd.V_drew)); exact Kd.V_mono HO1_3.out (fun _ hk => ⟨hk.1.1, ⟨hk.1.2, hk.2⟩⟩)⟩, ⟨by (with_reducible repeat (first | refine blk_drewN ?_ _ | refine blk_drew ?_ | refine blk_alloc ?_ _)); exact BK158.out⟩, ⟨by (with_reducible repeat (first | refine blk_drewN ?_ _ | refine blk_drew ?_ | refine blk_alloc ?_ _)); exact BK159.out⟩, ⟨by repeat (first | (with_reducible first | exact HB.out | apply below_alloc | apply pw_below_drewN | apply below_drew1 | refine below_set ?_ GE158.out | refine below_set ?_ GE159.out) | exact HB.out)⟩⟩
 case rest =>
  clear HC3
  try clear c1
  try clear c2
  try clear p2
  try clear c6
  try clear p6
  try clear c8
  try clear c8b0
  try clear c9
  try clear c11
  try clear c11b0
  try clear c12
  try clear c14
  try clear c14b0
  try clear c15
  try clear c17
  try clear c17b0
  try clear c17b1
  try clear c18
  try clear c20
  try clear c20b0
  try clear c20b1
  try clear c21
  try clear c24
  try clear hcz10_0
  try clear hcz10_1
  try clear hcz10_2
  try clear hcz10_3
  try clear hcz13_0
  try clear hcz13_1
  try clear hcz13_2
  try clear hcz13_3
  try clear hcz16_0
  try clear hcz16_1
  try clear hcz16_2
  try clear hcz16_3
  try clear hcz19_0
  try clear hcz19_1
  try clear hcz19_2
  try clear hcz19_3
  try clear hcz22_0
  try clear hcz22_1
  try clear hcz22_2
  try clear hcz22_3
  try clear hcz23_0
  try clear hcz23_1
  try clear hcz23_2
  try clear hcz23_3
  try clear hcz23_4
  try clear hcz25_0
  try clear hcz25_1
  try clear hcz25_2
  try clear hcz25_3
  try clear hcz26_0
  try clear hcz26_1
  try clear hcz26_2
  try clear hcz26_3
  try clear hcz26_4
  try clear hcz7_0
  try clear hcz7_1
  try clear hcz7_2
  try clear hcz7_3
  try clear hfz10_0
  try clear hfz10_1
  try clear hfz10_2
  try clear hfz10_3
  try clear hfz13_0
  try clear hfz13_1
  try clear hfz13_2
  try clear hfz13_3
  try clear hfz16_0
  try clear hfz16_1
  try clear hfz16_2
  try clear hfz16_3
  try clear hfz19_0
  try clear hfz19_1
  try clear hfz19_2
  try clear hfz19_3
  try clear hfz22_0
  try clear hfz22_1
  try clear hfz22_2
  try clear hfz22_3
  try clear hfz23_0
  try clear hfz23_1
  try clear hfz23_2
  try clear hfz23_3
  try clear hfz23_4
  try clear hfz25_0
  try clear hfz25_1
  try clear hfz25_2
  try clear hfz25_3
  try clear hfz26_0
  try clear hfz26_1
  try clear hfz26_2
  try clear hfz26_3
  try clear hfz26_4
  try clear hfz7_0
  try clear hfz7_1
  try clear hfz7_2
  try clear hfz7_3
  obtain ⟨kq, x54_2, rfl, HA, HJ2, HO_160002, HO_160003, BK158, BK159, HB⟩ := hcut
  cases kq with
  | zero => exact absurd HA.out (by simp [block_Check.j0])
  | succ kj2 =>
   have H := HA.out
   clear HA
   simp only [block_Check.j0] at H
   by_cases c27 : x54_2 = true
   ·subst c27
    have H1 : (some 4) = some r := by rw [if_pos rfl] at H; exact H
    clear H
    have H := H1
    clear H1
    obtain rfl := Option.some.inj H
    go_wp2
    go_ret
    exact ⟨by first | rfl | (simp [errW_none, errW_some] <;> rfl) | (simp [*, errW_none, errW_some] <;> rfl), by repeat (first | (with_reducible first | exact HB.out | apply below_alloc | apply pw_below_drewN | apply below_drew1 | refine below_set ?_ GE158.out | refine below_set ?_ GE159.out) | exact HB.out)⟩
   ·replace c27 := Bool.eq_false_iff.mpr c27
    subst c27
    have H1 : (block_Check.l0 kj2 (wrap64 ((l1_0.length : Int) - a1_1)) l1_0 (l1_0.length : Int) 0 a0_0 a0_1 a0_2 a0_3 a0_4 l1_0 a1_1 l1_2 l1_3) = some r := by rw [if_neg (show ¬ (false = true) by decide)] at H; exact H
    clear H
    have H := H1
    clear H1
    have H' := Aside0.mk H
    clear H
    have hnb28 := NB159_158.out
    have hnc28 := NB158_159.out
    obtain ⟨hcz29_0, hcz29_1, hcz29_2, hcz29_3, hfz29_0, hfz29_1, hfz29_2, hfz29_3⟩ := cq4 BK159.out
    go_wp2
    go_loopg [58] kj2 (fun kq v58 w' => ∃ (x58_2 : Int), v58 = .int .i64 x58_2 ∧ Aside0 (block_Check.l0 kq (wrap64 ((l1_0.length : Int) - a1_1)) l1_0 (l1_0.length : Int) x58_2 a0_0 a0_1 a0_2 a0_3 a0_4 l1_0 a1_1 l1_2 l1_3 = some r) ∧ Aside0 (kq ≤ kj2) ∧ Aside0 (Kd.V (Kd.slice 61 (Kd.slice 72 (Kd.int .i32))) 62 w' w.heap.size (fun k_ => ((P1_2_ k_ ∨ P1_3_ k_) ∨ w.heap.size ≤ k_) ∧ k_ ≠ gb158 ∧ k_ ≠ gb159) (.slice A1_2 l1_2.length c1_2) l1_2) ∧ Aside0 (Kd.V (Kd.slice 61 (Kd.slice 72 (Kd.int .i32))) 62 w' w.heap.size (fun k_ => ((P1_2_ k_ ∨ P1_3_ k_) ∨ w.heap.size ≤ k_) ∧ k_ ≠ gb158 ∧ k_ ≠ gb159) (.slice A1_3 l1_3.length c1_3) l1_3) ∧ Aside0 (w'.heap[gb158]? = some (.cells #[.int .i64 a0_0, .int .i64 a0_1, .int .i64 a0_2, .int .i64 a0_3, .int .i64 a0_4] 23 (0, 0))) ∧ Aside0 (w'.heap[gb159]? = some (.cells #[(.slice A1_0 l1_0.length c1_0), .int .i64 a1_1, (.slice A1_2 l1_2.length c1_2), (.slice A1_3 l1_3.length c1_3)] 29 (0, 0))) ∧ Aside0 (Below w.heap.size w w'))
    case atStart => exact ⟨(0), rs, H', ⟨Nat.le_refl _⟩, ⟨by (with_reducible repeat (first | apply Kd.V_alloc | apply Kd.V_drewN | apply Kd.V_drew)); exact HO_160002.out⟩, ⟨by (with_reducible repeat (first | apply Kd.V_alloc | apply Kd.V_drewN | apply Kd.V_drew)); exact HO_160003.out⟩, ⟨by (with_reducible repeat (first | refine blk_drewN ?_ _ | refine blk_drew ?_ | refine blk_alloc ?_ _)); exact BK158.out⟩, ⟨by (with_reducible repeat (first | refine blk_drewN ?_ _ | refine blk_drew ?_ | refine blk_alloc ?_ _)); exact BK159.out⟩, ⟨by repeat (first | (with_reducible first | exact HB.out | apply below_alloc | apply pw_below_drewN | apply below_drew1 | refine below_set ?_ GE158.out | refine below_set ?_ GE159.out) | exact HB.out)⟩⟩
    case round =>
     clear H'
     try clear c1
     try clear c2
     try clear p2
     try clear c6
     try clear p6
     try clear c8
     try clear c8b0
     try clear c9
     try clear c11
     try clear c11b0
     try clear c12
     try clear c14
     try clear c14b0
     try clear c15
     try clear c17
     try clear c17b0
     try clear c17b1
     try clear c18
     try clear c20
     try clear c20b0
     try clear c20b1
     try clear c21
     try clear c24
     try clear c27
     try clear c28
     try clear hcz10_0
     try clear hcz10_1
     try clear hcz10_2
     try clear hcz10_3
     try clear hcz13_0
     try clear hcz13_1
     try clear hcz13_2
     try clear hcz13_3
     try clear hcz16_0
     try clear hcz16_1
     try clear hcz16_2
     try clear hcz16_3
     try clear hcz19_0
     try clear hcz19_1
     try clear hcz19_2
     try clear hcz19_3
     try clear hcz22_0
     try clear hcz22_1
     try clear hcz22_2
     try clear hcz22_3
     try clear hcz23_0
     try clear hcz23_1
     try clear hcz23_2
     try clear hcz23_3
     try clear hcz23_4
     try clear hcz25_0
     try clear hcz25_1
     try clear hcz25_2
     try clear hcz25_3
     try clear hcz26_0
     try clear hcz26_1
     try clear hcz26_2
     try clear hcz26_3
     try clear hcz26_4
     try clear hcz29_0
     try clear hcz29_1
     try clear hcz29_2
     try clear hcz29_3
     try clear hcz7_0
     try clear hcz7_1
     try clear hcz7_2
     try clear hcz7_3
     try clear hfz10_0
     try clear hfz10_1
     try clear hfz10_2
     try clear hfz10_3
     try clear hfz13_0
     try clear hfz13_1
     try clear hfz13_2
     try clear hfz13_3
     try clear hfz16_0
     try clear hfz16_1
     try clear hfz16_2
     try clear hfz16_3
     try clear hfz19_0
     try clear hfz19_1
     try clear hfz19_2
     try clear hfz19_3
     try clear hfz22_0
     try clear hfz22_1
     try clear hfz22_2
     try clear hfz22_3
     try clear hfz23_0
     try clear hfz23_1
     try clear hfz23_2
     try clear hfz23_3
     try clear hfz23_4
     try clear hfz25_0
     try clear hfz25_1
     try clear hfz25_2
     try clear hfz25_3
     try clear hfz26_0
     try clear hfz26_1
     try clear hfz26_2
     try clear hfz26_3
     try clear hfz26_4
     try clear hfz29_0
     try clear hfz29_1
     try clear hfz29_2
     try clear hfz29_3
     try clear hfz7_0
     try clear hfz7_1
     try clear hfz7_2
     try clear hfz7_3
     try clear p2
     try clear p6
     obtain ⟨x58_2, rfl, HA, HK2, HO_160002, HO_160003, BK158, BK159, HB⟩ := hrel
     cases gk with
     | zero => exact absurd HA.out (by simp [block_Check.l0])
     | succ k2 =>
      have H := HA.out
      clear HA
      simp only [block_Check.l0] at H
      by_cases c30 : x58_2 < (l1_0.length : Int)
      ·rw [if_pos c30] at H
       have c30b0 : decide (x58_2 < (l1_0.length : Int)) = true := decide_eq_true c30
       clear c30
       by_cases c31 : 0 ≤ x58_2
       ·rw [if_pos c31] at H
        have c31b0 : decide (0 ≤ x58_2) = true := decide_eq_true c31
        clear c31
        by_cases c32 : x58_2 < (l1_0.length : Int)
        ·rw [if_pos c32] at H
         have c32b0 : decide (x58_2 < (l1_0.length : Int)) = true := decide_eq_true c32
         clear c32
         by_cases c33 : (rd l1_0 x58_2) < 0
         ·rw [if_pos c33] at H
          have c33b0 : decide ((rd l1_0 x58_2) < 0) = true := decide_eq_true c33
          clear c33
          obtain rfl := Option.some.inj H
          have p160 : 0 ≤ (x58_2 : Int) := of_decide_eq_true asm
          have q160 : x58_2 < (l1_0.length : Int) := of_decide_eq_true asm
          obtain ⟨ad160, e160, hx160_0⟩ := Kd.at_int HR1_0.out x58_2 p160 q160
          cases e160
          (first | replace hx160_0 := (HB.out.cell (World.block_lt_of_cell? w _ hx160_0)).trans hx160_0 | skip)
          replace p160 := eq_true p160
          replace q160 := eq_true q160
          go_wp2
          go_ret
          exact ⟨by first | rfl | (simp [errW_none, errW_some] <;> rfl) | (simp [*, errW_none, errW_some] <;> rfl), by repeat (first | (with_reducible first | exact HB.out | apply below_alloc | apply pw_below_drewN | apply below_drew1 | refine below_set ?_ GE158.out | refine below_set ?_ GE159.out) | exact HB.out)⟩
         ·rw [if_neg c33] at H
          have c33b0 : decide ((rd l1_0 x58_2) < 0) = false := decide_eq_false c33
          clear c33
          by_cases c34 : (rd l1_0 x58_2) ≥ a0_0
          ·rw [if_pos c34] at H
           have c34b0 : decide (a0_0 ≤ (rd l1_0 x58_2)) = true := decide_eq_true c34
           clear c34
           obtain rfl := Option.some.inj H
           have p160 : 0 ≤ (x58_2 : Int) := of_decide_eq_true asm
           have q160 : x58_2 < (l1_0.length : Int) := of_decide_eq_true asm
           obtain ⟨ad160, e160, hx160_0⟩ := Kd.at_int HR1_0.out x58_2 p160 q160
           cases e160
           (first | replace hx160_0 := (HB.out.cell (World.block_lt_of_cell? w _ hx160_0)).trans hx160_0 | skip)
           replace p160 := eq_true p160
           replace q160 := eq_true q160
           have hnb35 := NB158_159.out
           have hnc35 := NB159_158.out
           obtain ⟨hcz36_0, hcz36_1, hcz36_2, hcz36_3, hcz36_4, hfz36_0, hfz36_1, hfz36_2, hfz36_3, hfz36_4⟩ := cq5 BK158.out
           go_wp2
           go_ret
           exact ⟨by first | rfl | (simp [errW_none, errW_some] <;> rfl) | (simp [*, errW_none, errW_some] <;> rfl), by repeat (first | (with_reducible first | exact HB.out | apply below_alloc | apply pw_below_drewN | apply below_drew1 | refine below_set ?_ GE158.out | refine below_set ?_ GE159.out) | exact HB.out)⟩
          ·rw [if_neg c34] at H
           have c34b0 : decide (a0_0 ≤ (rd l1_0 x58_2)) = false := decide_eq_false c34
           clear c34
           have H' := Aside0.mk H
           clear H
           have p160 : 0 ≤ (x58_2 : Int) := of_decide_eq_true asm
           have q160 : x58_2 < (l1_0.length : Int) := of_decide_eq_true asm
           obtain ⟨ad160, e160, hx160_0⟩ := Kd.at_int HR1_0.out x58_2 p160 q160
           cases e160
           (first | replace hx160_0 := (HB.out.cell (World.block_lt_of_cell? w _ hx160_0)).trans hx160_0 | skip)
           replace p160 := eq_true p160
           replace q160 := eq_true q160
           have hnb37 := NB158_159.out
           have hnc37 := NB159_158.out
           obtain ⟨hcz38_0, hcz38_1, hcz38_2, hcz38_3, hcz38_4, hfz38_0, hfz38_1, hfz38_2, hfz38_3, hfz38_4⟩ := cq5 BK158.out
           go_wp2
           go_roundg k2
           case measure => have := HJ2.out; have := HK2.out; omega
           case rel => exact ⟨(wrap64 (x58_2 + 1)), rs, H', ⟨by have := HJ2.out; have := HK2.out; omega⟩, ⟨by (with_reducible repeat (first | apply Kd.V_alloc | apply Kd.V_drewN | apply Kd.V_drew)); exact HO_160002.out⟩, ⟨by (with_reducible repeat (first | apply Kd.V_alloc | apply Kd.V_drewN | apply Kd.V_drew)); exact HO_160003.out⟩, ⟨by (with_reducible repeat (first | refine blk_drewN ?_ _ | refine blk_drew ?_ | refine blk_alloc ?_ _)); exact BK158.out⟩, ⟨by (with_reducible repeat (first | refine blk_drewN ?_ _ | refine blk_drew ?_ | refine blk_alloc ?_ _)); exact BK159.out⟩, ⟨by repeat (first | (with_reducible first | exact HB.out | apply below_alloc | apply pw_below_drewN | apply below_drew1 | refine below_set ?_ GE158.out | refine below_set ?_ GE159.out) | exact HB.out)⟩⟩
        ·rw [if_neg c32] at H
         exact absurd H (by simp)
       ·rw [if_neg c31] at H
        exact absurd H (by simp)
      ·rw [if_neg c30] at H
       have c30b0 : decide (x58_2 < (l1_0.length : Int)) = false := decide_eq_false c30
       clear c30
       obtain ⟨y161, hy161⟩ : ∃ y_ : List (List (List (List Int))), y_ = (([l1_2, l1_3] : List (List (List (List Int))))) := ⟨_, rfl⟩
       replace H : (block_Check.l1 k2 (wrap64 ((l1_0.length : Int) - a1_1)) y161 (y161.length : Int) 0 a0_0 a0_1 a0_2 a0_3 a0_4) = some r := by first | (rw [hy161]; with_reducible exact H) | (have H2_ := (Option.bind_some _ _).symm.trans H; rw [hy161]; with_reducible exact H2_) | (have H2_ := (Option.bind_some _ _).symm.trans H; with_reducible exact H2_) | with_reducible exact H | (rw [hy161]; exact H) | exact H
       have Ny161 := Aside0.mk hy161
       clear hy161
       have H' := Aside0.mk H
       clear H
       have hnb39 := NB159_158.out
       have hnc39 := NB158_159.out
       obtain ⟨hcz40_0, hcz40_1, hcz40_2, hcz40_3, hfz40_0, hfz40_1, hfz40_2, hfz40_3⟩ := cq4 BK159.out
       go_wp2_with (first | ((with_reducible refine gate_dst (N := 77) rfl ?_); (try (refine gate_guard (by rfl) ?_; dsimp only)); refine Kd.N_lit (Kd.slice 62 (Kd.slice 61 (Kd.slice 72 (Kd.int .i32)))) _ 25 ?hg (N' := 77) ?hd (xs := ([l1_2, l1_3] : List (List (List (List Int))))) (inner := [.slice A1_2 l1_2.length c1_2, .slice A1_3 l1_3.length c1_3]) (ok := (fun k_ => ((P1_2_ k_ ∨ P1_3_ k_) ∨ w.heap.size ≤ k_) ∧ k_ ≠ gb158 ∧ k_ ≠ gb159)) (okp := (fun k_ => ((P1_2_ k_ ∨ P1_3_ k_) ∨ w.heap.size ≤ k_) ∧ k_ ≠ gb158 ∧ k_ ≠ gb159)) ?hr ?hp (fun _ hk => hk) ((show ∀ k_, wr.heap.size ≤ k_ → (fun k_ => ((P1_2_ k_ ∨ P1_3_ k_) ∨ w.heap.size ≤ k_) ∧ k_ ≠ gb158 ∧ k_ ≠ gb159) k_ from fun k_ hk => ⟨(.inr (Nat.le_trans (below_size bel) hk)), Kd.freshB (g := gb158) (o := .cells #[.int .i64 a0_0, .int .i64 a0_1, .int .i64 a0_2, .int .i64 a0_3, .int .i64 a0_4] 23 (0, 0)) (by (with_reducible repeat (first | refine blk_drewN ?_ _ | refine blk_drew ?_ | refine blk_alloc ?_ _)); exact BK158.out) k_ hk, Kd.freshB (g := gb159) (o := .cells #[.slice A1_0 l1_0.length c1_0, .int .i64 a1_1, .slice A1_2 l1_2.length c1_2, .slice A1_3 l1_3.length c1_3] 29 (0, 0)) (by (with_reducible repeat (first | refine blk_drewN ?_ _ | refine blk_drew ?_ | refine blk_alloc ?_ _)); exact BK159.out) k_ hk⟩) _ (Nat.le_refl _)) (Below.refl _ _) (Nat.le_refl _) (by simp) ?_; (case hd => rfl); (case hg => rfl); (case hr => first | (go_simp; done) | (go_simp; rfl)); (case hp => exact (Reps.one (show Kd.FK (Kd.slice 62 (Kd.slice 61 (Kd.slice 72 (Kd.int .i32)))) _ _ l1_2 [.slice A1_2 l1_2.length c1_2] from (Kd.FK_slice_mk (Kd.V_reads' (Kd.V_mono (ok' := (fun k_ => ((P1_2_ k_ ∨ P1_3_ k_) ∨ w.heap.size ≤ k_) ∧ k_ ≠ gb158 ∧ k_ ≠ gb159)) (HO_160002.out) (fun k_ hk => ⟨hk.1, ⟨hk.2.1, hk.2.2⟩⟩))).2.1 (Kd.V_F (Kd.V_mono (ok' := (fun k_ => ((P1_2_ k_ ∨ P1_3_ k_) ∨ w.heap.size ≤ k_) ∧ k_ ≠ gb158 ∧ k_ ≠ gb159)) (HO_160002.out) (fun k_ hk => ⟨hk.1, ⟨hk.2.1, hk.2.2⟩⟩))))) (Reps.one (show Kd.FK (Kd.slice 62 (Kd.slice 61 (Kd.slice 72 (Kd.int .i32)))) _ _ l1_3 [.slice A1_3 l1_3.length c1_3] from (Kd.FK_slice_mk (Kd.V_reads' (Kd.V_mono (ok' := (fun k_ => ((P1_2_ k_ ∨ P1_3_ k_) ∨ w.heap.size ≤ k_) ∧ k_ ≠ gb158 ∧ k_ ≠ gb159)) (HO_160003.out) (fun k_ hk => ⟨hk.1, ⟨hk.2.1, hk.2.2⟩⟩))).2.1 (Kd.V_F (Kd.V_mono (ok' := (fun k_ => ((P1_2_ k_ ∨ P1_3_ k_) ∨ w.heap.size ≤ k_) ∧ k_ ≠ gb158 ∧ k_ ≠ gb159)) (HO_160003.out) (fun k_ hk => ⟨hk.1, ⟨hk.2.1, hk.2.2⟩⟩))))) (Reps.none _ _)))); intro v162 w41 ho42 hb hg_ hnew_; clear hg_ hnew_; (first | rw [← Ny161.out] at ho42 | (simp only [Int.reduceToNat] at ho42; rw [← Ny161.out] at ho42)); have n0_ := Aside0.mk (Kd.V_elder' (by (with_reducible repeat (first | apply Kd.V_alloc | apply Kd.V_drewN | apply Kd.V_drew)); exact HO_160002.out) (Kd.N_base ho42) hb); have n1_ := Aside0.mk (Kd.V_elder' (by (with_reducible repeat (first | apply Kd.V_alloc | apply Kd.V_drewN | apply Kd.V_drew)); exact HO_160003.out) (Kd.N_base ho42) hb); have n2_ := Aside0.mk (Kd.N_lower ho42 (below_size bel)); have n3_ := Aside0.mk (bkb BK158.out hb); have n4_ := Aside0.mk (bkb BK159.out hb); have n5_ := Aside0.mk (below_step bel hb); clear HO_160002; clear HO_160003; clear BK158; clear BK159; clear HB; have HO_160002 := n0_; have HO_160003 := n1_; have HO163 := n2_; have BK158 := n3_; have BK159 := n4_; have HB := n5_; clear n0_ n1_ n2_ n3_ n4_ n5_; clear hb ho42; obtain ⟨Ao43, co43, eo43⟩ := Kd.N_slice HO163.out; subst eo43))
       go_loopg [79] k2 (fun kq v79 w' => ∃ (x79_3 : Int), v79 = .int .i64 x79_3 ∧ Aside0 (block_Check.l1 kq (wrap64 ((l1_0.length : Int) - a1_1)) y161 (y161.length : Int) x79_3 a0_0 a0_1 a0_2 a0_3 a0_4 = some r) ∧ Aside0 (kq ≤ k2) ∧ Aside0 (Kd.N (Kd.slice 62 (Kd.slice 61 (Kd.slice 72 (Kd.int .i32)))) 25 w' w.heap.size (fun k_ => ((P1_2_ k_ ∨ P1_3_ k_) ∨ w.heap.size ≤ k_) ∧ k_ ≠ gb158 ∧ k_ ≠ gb159) (.slice Ao43 y161.length co43) y161) ∧ Aside0 (Kd.V (Kd.slice 61 (Kd.slice 72 (Kd.int .i32))) 62 w' w.heap.size (fun k_ => ((P1_2_ k_ ∨ P1_3_ k_) ∨ w.heap.size ≤ k_) ∧ some k_ ≠ ((.slice Ao43 y161.length co43) : Value).ownBlock ∧ k_ ≠ gb158 ∧ k_ ≠ gb159) (.slice A1_2 l1_2.length c1_2) l1_2) ∧ Aside0 (Kd.V (Kd.slice 61 (Kd.slice 72 (Kd.int .i32))) 62 w' w.heap.size (fun k_ => ((P1_2_ k_ ∨ P1_3_ k_) ∨ w.heap.size ≤ k_) ∧ some k_ ≠ ((.slice Ao43 y161.length co43) : Value).ownBlock ∧ k_ ≠ gb158 ∧ k_ ≠ gb159) (.slice A1_3 l1_3.length c1_3) l1_3) ∧ Aside0 (w'.heap[gb158]? = some (.cells #[.int .i64 a0_0, .int .i64 a0_1, .int .i64 a0_2, .int .i64 a0_3, .int .i64 a0_4] 23 (0, 0))) ∧ Aside0 (w'.heap[gb159]? = some (.cells #[(.slice A1_0 l1_0.length c1_0), .int .i64 a1_1, (.slice A1_2 l1_2.length c1_2), (.slice A1_3 l1_3.length c1_3)] 29 (0, 0))) ∧ Aside0 (Below w.heap.size w w'))
       case atStart => exact ⟨(0), rs, H', ⟨Nat.le_refl _⟩, ⟨by (with_reducible repeat (first | apply Kd.N_alloc | apply Kd.N_drewN | apply Kd.N_drew)); exact HO163.out⟩, ⟨by (with_reducible repeat (first | apply Kd.V_alloc | apply Kd.V_drewN | apply Kd.V_drew)); exact Kd.V_mono HO_160002.out (fun _ hk => ⟨hk.1.1, ⟨hk.2, ⟨hk.1.2.1, hk.1.2.2⟩⟩⟩)⟩, ⟨by (with_reducible repeat (first | apply Kd.V_alloc | apply Kd.V_drewN | apply Kd.V_drew)); exact Kd.V_mono HO_160003.out (fun _ hk => ⟨hk.1.1, ⟨hk.2, ⟨hk.1.2.1, hk.1.2.2⟩⟩⟩)⟩, ⟨by (with_reducible repeat (first | refine blk_drewN ?_ _ | refine blk_drew ?_ | refine blk_alloc ?_ _)); exact BK158.out⟩, ⟨by (with_reducible repeat (first | refine blk_drewN ?_ _ | refine blk_drew ?_ | refine blk_alloc ?_ _)); exact BK159.out⟩, ⟨by repeat (first | (with_reducible first | exact HB.out | apply below_alloc | apply pw_below_drewN | apply below_drew1 | refine below_set ?_ GE158.out | refine below_set ?_ GE159.out) | exact HB.out)⟩⟩
       case round =>
        clear H'
        try clear c1
        try clear p1
        try clear q1
        try clear hx1
        try clear c2
        try clear p2
        try clear c3
        try clear c6
        try clear p6
        try clear c8
        try clear c8b0
        try clear c9
        try clear c11
        try clear c11b0
        try clear c12
        try clear c14
        try clear c14b0
        try clear c15
        try clear p16
        try clear q16
        try clear hx16
        try clear c17
        try clear c17b0
        try clear c17b1
        try clear c18
        try clear c20
        try clear c20b0
        try clear c20b1
        try clear c21
        try clear c24
        try clear c27
        try clear c28
        try clear c30
        try clear c30b0
        try clear c31
        try clear c31b0
        try clear c32
        try clear c32b0
        try clear c33
        try clear c33b0
        try clear c34
        try clear c34b0
        try clear c35
        try clear c37
        try clear c39
        try clear hcz10_0
        try clear hcz10_1
        try clear hcz10_2
        try clear hcz10_3
        try clear hcz13_0
        try clear hcz13_1
        try clear hcz13_2
        try clear hcz13_3
        try clear hcz16_0
        try clear hcz16_1
        try clear hcz16_2
        try clear hcz16_3
        try clear hcz19_0
        try clear hcz19_1
        try clear hcz19_2
        try clear hcz19_3
        try clear hcz22_0
        try clear hcz22_1
        try clear hcz22_2
        try clear hcz22_3
        try clear hcz23_0
        try clear hcz23_1
        try clear hcz23_2
        try clear hcz23_3
        try clear hcz23_4
        try clear hcz25_0
        try clear hcz25_1
        try clear hcz25_2
        try clear hcz25_3
        try clear hcz26_0
        try clear hcz26_1
        try clear hcz26_2
        try clear hcz26_3
        try clear hcz26_4
        try clear hcz29_0
        try clear hcz29_1
        try clear hcz29_2
        try clear hcz29_3
        try clear hcz36_0
        try clear hcz36_1
        try clear hcz36_2
        try clear hcz36_3
        try clear hcz36_4
        try clear hcz38_0
        try clear hcz38_1
        try clear hcz38_2
        try clear hcz38_3
        try clear hcz38_4
        try clear hcz40_0
        try clear hcz40_1
        try clear hcz40_2
        try clear hcz40_3
        try clear hcz7_0
        try clear hcz7_1
        try clear hcz7_2
        try clear hcz7_3
        try clear hfz10_0
        try clear hfz10_1
        try clear hfz10_2
        try clear hfz10_3
        try clear hfz13_0
        try clear hfz13_1
        try clear hfz13_2
        try clear hfz13_3
        try clear hfz16_0
        try clear hfz16_1
        try clear hfz16_2
        try clear hfz16_3
        try clear hfz19_0
        try clear hfz19_1
        try clear hfz19_2
        try clear hfz19_3
        try clear hfz22_0
        try clear hfz22_1
        try clear hfz22_2
        try clear hfz22_3
        try clear hfz23_0
        try clear hfz23_1
        try clear hfz23_2
        try clear hfz23_3
        try clear hfz23_4
        try clear hfz25_0
        try clear hfz25_1
        try clear hfz25_2
        try clear hfz25_3
        try clear hfz26_0
        try clear hfz26_1
        try clear hfz26_2
        try clear hfz26_3
        try clear hfz26_4
        try clear hfz29_0
        try clear hfz29_1
        try clear hfz29_2
        try clear hfz29_3
        try clear hfz36_0
        try clear hfz36_1
        try clear hfz36_2
        try clear hfz36_3
        try clear hfz36_4
        try clear hfz38_0
        try clear hfz38_1
        try clear hfz38_2
        try clear hfz38_3
        try clear hfz38_4
        try clear hfz40_0
        try clear hfz40_1
        try clear hfz40_2
        try clear hfz40_3
        try clear hfz7_0
        try clear hfz7_1
        try clear hfz7_2
        try clear hfz7_3
        try clear hx160_0
        try clear p160
        try clear p2
        try clear p6
        try clear q160
        obtain ⟨x79_3, rfl, HA, HK3, HO_77, HO_160002, HO_160003, BK158, BK159, HB⟩ := hrel
        cases gk with
        | zero => exact absurd HA.out (by simp [block_Check.l1])
        | succ k3 =>
         have H := HA.out
         clear HA
         simp only [block_Check.l1] at H
         by_cases c44 : x79_3 < (y161.length : Int)
         ·rw [if_pos c44] at H
          have c44b0 : decide (x79_3 < (y161.length : Int)) = true := decide_eq_true c44
          clear c44
          by_cases c45 : 0 ≤ x79_3
          ·rw [if_pos c45] at H
           have c45b0 : decide (0 ≤ x79_3) = true := decide_eq_true c45
           clear c45
           by_cases c46 : x79_3 < (y161.length : Int)
           ·rw [if_pos c46] at H
            have c46b0 : decide (x79_3 < (y161.length : Int)) = true := decide_eq_true c46
            clear c46
            have H' := Aside0.mk H
            clear H
            have p164 : 0 ≤ (x79_3 : Int) := of_decide_eq_true asm
            have q164 : x79_3 < (y161.length : Int) := of_decide_eq_true asm
            obtain ⟨ad164, A164_0, c164_0, e164, hx164_0, hl164_0, hi164_0⟩ := at_L4 (Kd.N_reads' HO_77.out).2.2 x79_3 p164 q164
            cases e164
            obtain ⟨ce164, hce164, hMe164, hcc164⟩ := Kd.N_get HO_77.out [] x79_3 p164 (by first | exact q164 | exact of_decide_eq_true asm | (have e_ := (Kd.N_reads' HO_77.out).1; omega))
            obtain ⟨ua164_0, uc164_0, rfl, ul164_0, ge164_0⟩ := Kd.FK_slice_open hMe164
            have hv164_0 := hcc164 0 _ rfl
            rw [Nat.add_zero, show ((Kd.slice 62 (Kd.slice 61 (Kd.slice 72 (Kd.int .i32))))).sz = 1 from rfl, Nat.mul_one] at hv164_0
            replace hv164_0 := Option.some.inj (hv164_0.symm.trans hx164_0)
            injection hv164_0 with hva_ hvn_ hvc_
            rw [hva_] at ge164_0
            rw [hvc_] at ul164_0
            have HL164_0 := Aside0.mk (show Kd.V (Kd.slice 61 (Kd.slice 72 (Kd.int .i32))) 62 _ w.heap.size _ _ (rd_L4 y161 x79_3) from Kd.V_mk ul164_0 ge164_0)
            clear hva_ hvn_ hvc_ ge164_0 ul164_0
            clear hcc164 hce164
            have HR164_0 := Aside0.mk hi164_0
            have HC164_0 := Aside0.mk hl164_0
            clear hi164_0 hl164_0
            replace p164 := eq_true p164
            replace q164 := eq_true q164
            go_wp2
            go_loopg [85] k3 (fun kq v85 w' => ∃ (x85_4 : Int), v85 = .int .i64 x85_4 ∧ Aside0 (block_Check.l2 kq (wrap64 ((l1_0.length : Int) - a1_1)) y161 (y161.length : Int) x79_3 (rd_L4 y161 x79_3) ((rd_L4 y161 x79_3).length : Int) x85_4 a0_0 a0_1 a0_2 a0_3 a0_4 = some r) ∧ Aside0 (kq ≤ k3) ∧ Aside0 (Kd.N (Kd.slice 62 (Kd.slice 61 (Kd.slice 72 (Kd.int .i32)))) 25 w' w.heap.size (fun k_ => ((P1_2_ k_ ∨ P1_3_ k_) ∨ w.heap.size ≤ k_) ∧ k_ ≠ gb158 ∧ k_ ≠ gb159) (.slice (some ad164) y161.length co43) y161) ∧ Aside0 (Kd.V (Kd.slice 61 (Kd.slice 72 (Kd.int .i32))) 62 w' w.heap.size (fun k_ => ((P1_2_ k_ ∨ P1_3_ k_) ∨ w.heap.size ≤ k_) ∧ some k_ ≠ ((.slice (some ad164) y161.length co43) : Value).ownBlock ∧ k_ ≠ gb158 ∧ k_ ≠ gb159) (.slice A1_2 l1_2.length c1_2) l1_2) ∧ Aside0 (Kd.V (Kd.slice 61 (Kd.slice 72 (Kd.int .i32))) 62 w' w.heap.size (fun k_ => ((P1_2_ k_ ∨ P1_3_ k_) ∨ w.heap.size ≤ k_) ∧ some k_ ≠ ((.slice (some ad164) y161.length co43) : Value).ownBlock ∧ k_ ≠ gb158 ∧ k_ ≠ gb159) (.slice A1_3 l1_3.length c1_3) l1_3) ∧ Aside0 (w'.heap[gb158]? = some (.cells #[.int .i64 a0_0, .int .i64 a0_1, .int .i64 a0_2, .int .i64 a0_3, .int .i64 a0_4] 23 (0, 0))) ∧ Aside0 (w'.heap[gb159]? = some (.cells #[(.slice A1_0 l1_0.length c1_0), .int .i64 a1_1, (.slice A1_2 l1_2.length c1_2), (.slice A1_3 l1_3.length c1_3)] 29 (0, 0))) ∧ Aside0 (Kd.C (Kd.slice 61 (Kd.slice 72 (Kd.int .i32))) w' A164_0 (rd_L4 y161 x79_3).length (rd_L4 y161 x79_3)) ∧ Aside0 (Below w.heap.size w w'))
            case atStart => exact ⟨(0), rs, H', ⟨Nat.le_refl _⟩, ⟨by (with_reducible repeat (first | apply Kd.N_alloc | apply Kd.N_drewN | apply Kd.N_drew)); exact HO_77.out⟩, ⟨by (with_reducible repeat (first | apply Kd.V_alloc | apply Kd.V_drewN | apply Kd.V_drew)); exact HO_160002.out⟩, ⟨by (with_reducible repeat (first | apply Kd.V_alloc | apply Kd.V_drewN | apply Kd.V_drew)); exact HO_160003.out⟩, ⟨by (with_reducible repeat (first | refine blk_drewN ?_ _ | refine blk_drew ?_ | refine blk_alloc ?_ _)); exact BK158.out⟩, ⟨by (with_reducible repeat (first | refine blk_drewN ?_ _ | refine blk_drew ?_ | refine blk_alloc ?_ _)); exact BK159.out⟩, ⟨by repeat (first | (with_reducible exact HR164_0.out) | (with_reducible refine Kd.C_alloc ?_ _) | (with_reducible refine Kd.C_drewN ?_ _) | (with_reducible refine Kd.C_drew ?_) | exact HR164_0.out)⟩, ⟨by repeat (first | (with_reducible first | exact HB.out | apply below_alloc | apply pw_below_drewN | apply below_drew1 | refine below_set ?_ GE158.out | refine below_set ?_ GE159.out) | exact HB.out)⟩⟩
            case round =>
             clear H'
             try clear c1
             try clear p1
             try clear q1
             try clear hx1
             try clear c2
             try clear p2
             try clear c3
             try clear c4
             try clear c6
             try clear p6
             try clear c8
             try clear c8b0
             try clear c9
             try clear c11
             try clear c11b0
             try clear c12
             try clear c14
             try clear c14b0
             try clear c15
             try clear c16
             try clear p16
             try clear q16
             try clear hx16
             try clear c17
             try clear c17b0
             try clear c17b1
             try clear c18
             try clear c20
             try clear c20b0
             try clear c20b1
             try clear c21
             try clear c24
             try clear c27
             try clear c28
             try clear c30
             try clear c30b0
             try clear c31
             try clear c31b0
             try clear c32
             try clear c32b0
             try clear c33
             try clear c33b0
             try clear c34
             try clear c34b0
             try clear c35
             try clear c37
             try clear c39
             try clear c44
             try clear c44b0
             try clear c45
             try clear c45b0
             try clear c46
             try clear c46b0
             try clear hcz10_0
             try clear hcz10_1
             try clear hcz10_2
             try clear hcz10_3
             try clear hcz13_0
             try clear hcz13_1
             try clear hcz13_2
             try clear hcz13_3
             try clear hcz16_0
             try clear hcz16_1
             try clear hcz16_2
             try clear hcz16_3
             try clear hcz19_0
             try clear hcz19_1
             try clear hcz19_2
             try clear hcz19_3
             try clear hcz22_0
             try clear hcz22_1
             try clear hcz22_2
             try clear hcz22_3
             try clear hcz23_0
             try clear hcz23_1
             try clear hcz23_2
             try clear hcz23_3
             try clear hcz23_4
             try clear hcz25_0
             try clear hcz25_1
             try clear hcz25_2
             try clear hcz25_3
             try clear hcz26_0
             try clear hcz26_1
             try clear hcz26_2
             try clear hcz26_3
             try clear hcz26_4
             try clear hcz29_0
             try clear hcz29_1
             try clear hcz29_2
             try clear hcz29_3
             try clear hcz36_0
             try clear hcz36_1
             try clear hcz36_2
             try clear hcz36_3
             try clear hcz36_4
             try clear hcz38_0
             try clear hcz38_1
             try clear hcz38_2
             try clear hcz38_3
             try clear hcz38_4
             try clear hcz40_0
             try clear hcz40_1
             try clear hcz40_2
             try clear hcz40_3
             try clear hcz7_0
             try clear hcz7_1
             try clear hcz7_2
             try clear hcz7_3
             try clear hfz10_0
             try clear hfz10_1
             try clear hfz10_2
             try clear hfz10_3
             try clear hfz13_0
             try clear hfz13_1
             try clear hfz13_2
             try clear hfz13_3
             try clear hfz16_0
             try clear hfz16_1
             try clear hfz16_2
             try clear hfz16_3
             try clear hfz19_0
             try clear hfz19_1
             try clear hfz19_2
             try clear hfz19_3
             try clear hfz22_0
             try clear hfz22_1
             try clear hfz22_2
             try clear hfz22_3
             try clear hfz23_0
             try clear hfz23_1
             try clear hfz23_2
             try clear hfz23_3
             try clear hfz23_4
             try clear hfz25_0
             try clear hfz25_1
             try clear hfz25_2
             try clear hfz25_3
             try clear hfz26_0
             try clear hfz26_1
             try clear hfz26_2
             try clear hfz26_3
             try clear hfz26_4
             try clear hfz29_0
             try clear hfz29_1
             try clear hfz29_2
             try clear hfz29_3
             try clear hfz36_0
             try clear hfz36_1
             try clear hfz36_2
             try clear hfz36_3
             try clear hfz36_4
             try clear hfz38_0
             try clear hfz38_1
             try clear hfz38_2
             try clear hfz38_3
             try clear hfz38_4
             try clear hfz40_0
             try clear hfz40_1
             try clear hfz40_2
             try clear hfz40_3
             try clear hfz7_0
             try clear hfz7_1
             try clear hfz7_2
             try clear hfz7_3
             try clear hx160_0
             try clear hx164_0
             try clear p1
             try clear p16
             try clear p160
             try clear p164
             try clear p2
             try clear p6
             try clear q1
             try clear q16
             try clear q160
             try clear q164
             obtain ⟨x85_4, rfl, HA, HK4, HO_77, HO_160002, HO_160003, BK158, BK159, HR164_0, HB⟩ := hrel
             cases gk with
             | zero => exact absurd HA.out (by simp [block_Check.l2])
             | succ k4 =>
              have H := HA.out
              clear HA
              simp only [block_Check.l2] at H
              by_cases c47 : x85_4 < ((rd_L4 y161 x79_3).length : Int)
              ·rw [if_pos c47] at H
               have c47b0 : decide (x85_4 < ((rd_L4 y161 x79_3).length : Int)) = true := decide_eq_true c47
               clear c47
               by_cases c48 : 0 ≤ x85_4
               ·rw [if_pos c48] at H
                have c48b0 : decide (0 ≤ x85_4) = true := decide_eq_true c48
                clear c48
                by_cases c49 : x85_4 < ((rd_L4 y161 x79_3).length : Int)
                ·rw [if_pos c49] at H
                 have c49b0 : decide (x85_4 < ((rd_L4 y161 x79_3).length : Int)) = true := decide_eq_true c49
                 clear c49
                 by_cases c50 : ((rd_L3 (rd_L4 y161 x79_3) x85_4).length : Int) = (wrap64 ((l1_0.length : Int) - a1_1))
                 ·rw [if_pos c50] at H
                  have c50b0 : (((rd_L3 (rd_L4 y161 x79_3) x85_4).length : Int) == (wrap64 ((l1_0.length : Int) - a1_1))) = true := beq_iff_eq.mpr c50
                  have c50b1 : (((rd_L3 (rd_L4 y161 x79_3) x85_4).length : Int) != (wrap64 ((l1_0.length : Int) - a1_1))) = false := bne_eq_false_iff_eq.mpr c50
                  clear c50
                  have H' := Aside0.mk H
                  clear H
                  have p165 : 0 ≤ (x85_4 : Int) := of_decide_eq_true asm
                  have q165 : x85_4 < ((rd_L4 y161 x79_3).length : Int) := of_decide_eq_true asm
                  obtain ⟨ad165, A165_0, c165_0, e165, hx165_0, hl165_0, hi165_0⟩ := at_L3 HR164_0.out x85_4 p165 q165
                  cases e165
                  (first | replace hx165_0 := (HB.out.cell (World.block_lt_of_cell? w _ hx165_0)).trans hx165_0 | skip)
                  have HR165_0 := Aside0.mk hi165_0
                  have HC165_0 := Aside0.mk hl165_0
                  clear hi165_0 hl165_0
                  replace p165 := eq_true p165
                  replace q165 := eq_true q165
                  go_wp2
                  go_loopg [95] k4 (fun kq v95 w' => ∃ (x95_5 : Int), v95 = .int .i64 x95_5 ∧ Aside0 (block_Check.l3 kq (wrap64 ((l1_0.length : Int) - a1_1)) y161 (y161.length : Int) x79_3 (rd_L4 y161 x79_3) ((rd_L4 y161 x79_3).length : Int) x85_4 (rd_L3 (rd_L4 y161 x79_3) x85_4) ((rd_L3 (rd_L4 y161 x79_3) x85_4).length : Int) x95_5 a0_0 a0_1 a0_2 a0_3 a0_4 = some r) ∧ Aside0 (kq ≤ k4) ∧ Aside0 (Kd.N (Kd.slice 62 (Kd.slice 61 (Kd.slice 72 (Kd.int .i32)))) 25 w' w.heap.size (fun k_ => ((P1_2_ k_ ∨ P1_3_ k_) ∨ w.heap.size ≤ k_) ∧ k_ ≠ gb158 ∧ k_ ≠ gb159) (.slice (some ad164) y161.length co43) y161) ∧ Aside0 (Kd.V (Kd.slice 61 (Kd.slice 72 (Kd.int .i32))) 62 w' w.heap.size (fun k_ => ((P1_2_ k_ ∨ P1_3_ k_) ∨ w.heap.size ≤ k_) ∧ some k_ ≠ ((.slice (some ad164) y161.length co43) : Value).ownBlock ∧ k_ ≠ gb158 ∧ k_ ≠ gb159) (.slice A1_2 l1_2.length c1_2) l1_2) ∧ Aside0 (Kd.V (Kd.slice 61 (Kd.slice 72 (Kd.int .i32))) 62 w' w.heap.size (fun k_ => ((P1_2_ k_ ∨ P1_3_ k_) ∨ w.heap.size ≤ k_) ∧ some k_ ≠ ((.slice (some ad164) y161.length co43) : Value).ownBlock ∧ k_ ≠ gb158 ∧ k_ ≠ gb159) (.slice A1_3 l1_3.length c1_3) l1_3) ∧ Aside0 (w'.heap[gb158]? = some (.cells #[.int .i64 a0_0, .int .i64 a0_1, .int .i64 a0_2, .int .i64 a0_3, .int .i64 a0_4] 23 (0, 0))) ∧ Aside0 (w'.heap[gb159]? = some (.cells #[(.slice A1_0 l1_0.length c1_0), .int .i64 a1_1, (.slice A1_2 l1_2.length c1_2), (.slice A1_3 l1_3.length c1_3)] 29 (0, 0))) ∧ Aside0 (Kd.C (Kd.slice 61 (Kd.slice 72 (Kd.int .i32))) w' (some ad165) (rd_L4 y161 x79_3).length (rd_L4 y161 x79_3)) ∧ Aside0 (Kd.C (Kd.slice 72 (Kd.int .i32)) w' A165_0 (rd_L3 (rd_L4 y161 x79_3) x85_4).length (rd_L3 (rd_L4 y161 x79_3) x85_4)) ∧ Aside0 (Below w.heap.size w w'))
                  case atStart => exact ⟨(0), rs, H', ⟨Nat.le_refl _⟩, ⟨by (with_reducible repeat (first | apply Kd.N_alloc | apply Kd.N_drewN | apply Kd.N_drew)); exact HO_77.out⟩, ⟨by (with_reducible repeat (first | apply Kd.V_alloc | apply Kd.V_drewN | apply Kd.V_drew)); exact HO_160002.out⟩, ⟨by (with_reducible repeat (first | apply Kd.V_alloc | apply Kd.V_drewN | apply Kd.V_drew)); exact HO_160003.out⟩, ⟨by (with_reducible repeat (first | refine blk_drewN ?_ _ | refine blk_drew ?_ | refine blk_alloc ?_ _)); exact BK158.out⟩, ⟨by (with_reducible repeat (first | refine blk_drewN ?_ _ | refine blk_drew ?_ | refine blk_alloc ?_ _)); exact BK159.out⟩, ⟨by repeat (first | (with_reducible exact HR164_0.out) | (with_reducible refine Kd.C_alloc ?_ _) | (with_reducible refine Kd.C_drewN ?_ _) | (with_reducible refine Kd.C_drew ?_) | exact HR164_0.out)⟩, ⟨by repeat (first | exact HR165_0.out | (with_reducible refine Kd.C_alloc ?_ _) | (with_reducible refine Kd.C_drewN ?_ _) | (with_reducible refine Kd.C_drew ?_))⟩, ⟨by repeat (first | (with_reducible first | exact HB.out | apply below_alloc | apply pw_below_drewN | apply below_drew1 | refine below_set ?_ GE158.out | refine below_set ?_ GE159.out) | exact HB.out)⟩⟩
                  case round =>
                   clear H'
                   try clear c1
                   try clear p1
                   try clear q1
                   try clear hx1
                   try clear c2
                   try clear p2
                   try clear c3
                   try clear c4
                   try clear c5
                   try clear c6
                   try clear p6
                   try clear c8
                   try clear c8b0
                   try clear c9
                   try clear c11
                   try clear c11b0
                   try clear c12
                   try clear c14
                   try clear c14b0
                   try clear c15
                   try clear c16
                   try clear p16
                   try clear q16
                   try clear hx16
                   try clear c17
                   try clear c17b0
                   try clear c17b1
                   try clear c18
                   try clear c20
                   try clear c20b0
                   try clear c20b1
                   try clear c21
                   try clear c24
                   try clear c27
                   try clear c28
                   try clear c30
                   try clear c30b0
                   try clear c31
                   try clear c31b0
                   try clear c32
                   try clear c32b0
                   try clear c33
                   try clear c33b0
                   try clear c34
                   try clear c34b0
                   try clear c35
                   try clear c37
                   try clear c39
                   try clear c44
                   try clear c44b0
                   try clear c45
                   try clear c45b0
                   try clear c46
                   try clear c46b0
                   try clear c47
                   try clear c47b0
                   try clear c48
                   try clear c48b0
                   try clear c49
                   try clear c49b0
                   try clear c50
                   try clear c50b0
                   try clear c50b1
                   try clear hcz10_0
                   try clear hcz10_1
                   try clear hcz10_2
                   try clear hcz10_3
                   try clear hcz13_0
                   try clear hcz13_1
                   try clear hcz13_2
                   try clear hcz13_3
                   try clear hcz16_0
                   try clear hcz16_1
                   try clear hcz16_2
                   try clear hcz16_3
                   try clear hcz19_0
                   try clear hcz19_1
                   try clear hcz19_2
                   try clear hcz19_3
                   try clear hcz22_0
                   try clear hcz22_1
                   try clear hcz22_2
                   try clear hcz22_3
                   try clear hcz23_0
                   try clear hcz23_1
                   try clear hcz23_2
                   try clear hcz23_3
                   try clear hcz23_4
                   try clear hcz25_0
                   try clear hcz25_1
                   try clear hcz25_2
                   try clear hcz25_3
                   try clear hcz26_0
                   try clear hcz26_1
                   try clear hcz26_2
                   try clear hcz26_3
                   try clear hcz26_4
                   try clear hcz29_0
                   try clear hcz29_1
                   try clear hcz29_2
                   try clear hcz29_3
                   try clear hcz36_0
                   try clear hcz36_1
                   try clear hcz36_2
                   try clear hcz36_3
                   try clear hcz36_4
                   try clear hcz38_0
                   try clear hcz38_1
                   try clear hcz38_2
                   try clear hcz38_3
                   try clear hcz38_4
                   try clear hcz40_0
                   try clear hcz40_1
                   try clear hcz40_2
                   try clear hcz40_3
                   try clear hcz7_0
                   try clear hcz7_1
                   try clear hcz7_2
                   try clear hcz7_3
                   try clear hfz10_0
                   try clear hfz10_1
                   try clear hfz10_2
                   try clear hfz10_3
                   try clear hfz13_0
                   try clear hfz13_1
                   try clear hfz13_2
                   try clear hfz13_3
                   try clear hfz16_0
                   try clear hfz16_1
                   try clear hfz16_2
                   try clear hfz16_3
                   try clear hfz19_0
                   try clear hfz19_1
                   try clear hfz19_2
                   try clear hfz19_3
                   try clear hfz22_0
                   try clear hfz22_1
                   try clear hfz22_2
                   try clear hfz22_3
                   try clear hfz23_0
                   try clear hfz23_1
                   try clear hfz23_2
                   try clear hfz23_3
                   try clear hfz23_4
                   try clear hfz25_0
                   try clear hfz25_1
                   try clear hfz25_2
                   try clear hfz25_3
                   try clear hfz26_0
                   try clear hfz26_1
                   try clear hfz26_2
                   try clear hfz26_3
                   try clear hfz26_4
                   try clear hfz29_0
                   try clear hfz29_1
                   try clear hfz29_2
                   try clear hfz29_3
                   try clear hfz36_0
                   try clear hfz36_1
                   try clear hfz36_2
                   try clear hfz36_3
                   try clear hfz36_4
                   try clear hfz38_0
                   try clear hfz38_1
                   try clear hfz38_2
                   try clear hfz38_3
                   try clear hfz38_4
                   try clear hfz40_0
                   try clear hfz40_1
                   try clear hfz40_2
                   try clear hfz40_3
                   try clear hfz7_0
                   try clear hfz7_1
                   try clear hfz7_2
                   try clear hfz7_3
                   try clear hx160_0
                   try clear hx164_0
                   try clear hx165_0
                   try clear p1
                   try clear p16
                   try clear p160
                   try clear p164
                   try clear p165
                   try clear p2
                   try clear p6
                   try clear q1
                   try clear q16
                   try clear q160
                   try clear q164
                   try clear q165
                   obtain ⟨x95_5, rfl, HA, HK5, HO_77, HO_160002, HO_160003, BK158, BK159, HR164_0, HR165_0, HB⟩ := hrel
                   cases gk with
                   | zero => exact absurd HA.out (by simp [block_Check.l3])
                   | succ k5 =>
                    have H := HA.out
                    clear HA
                    simp only [block_Check.l3] at H
                    by_cases c51 : x95_5 < ((rd_L3 (rd_L4 y161 x79_3) x85_4).length : Int)
                    ·rw [if_pos c51] at H
                     have c51b0 : decide (x95_5 < ((rd_L3 (rd_L4 y161 x79_3) x85_4).length : Int)) = true := decide_eq_true c51
                     clear c51
                     by_cases c52 : 0 ≤ x95_5
                     ·rw [if_pos c52] at H
                      have c52b0 : decide (0 ≤ x95_5) = true := decide_eq_true c52
                      clear c52
                      by_cases c53 : x95_5 < ((rd_L3 (rd_L4 y161 x79_3) x85_4).length : Int)
                      ·rw [if_pos c53] at H
                       have c53b0 : decide (x95_5 < ((rd_L3 (rd_L4 y161 x79_3) x85_4).length : Int)) = true := decide_eq_true c53
                       clear c53
                       by_cases c54 : ((rd_L2 (rd_L3 (rd_L4 y161 x79_3) x85_4) x95_5).length : Int) = a0_1
                       ·rw [if_pos c54] at H
                        have c54b0 : (((rd_L2 (rd_L3 (rd_L4 y161 x79_3) x85_4) x95_5).length : Int) == a0_1) = true := beq_iff_eq.mpr c54
                        have c54b1 : (((rd_L2 (rd_L3 (rd_L4 y161 x79_3) x85_4) x95_5).length : Int) != a0_1) = false := bne_eq_false_iff_eq.mpr c54
                        clear c54
                        have H' := Aside0.mk H
                        clear H
                        have p166 : 0 ≤ (x95_5 : Int) := of_decide_eq_true asm
                        have q166 : x95_5 < ((rd_L3 (rd_L4 y161 x79_3) x85_4).length : Int) := of_decide_eq_true asm
                        obtain ⟨ad166, A166_0, c166_0, e166, hx166_0, hl166_0, hi166_0⟩ := at_L2 HR165_0.out x95_5 p166 q166
                        cases e166
                        (first | replace hx166_0 := (HB.out.cell (World.block_lt_of_cell? w _ hx166_0)).trans hx166_0 | skip)
                        have HR166_0 := Aside0.mk hi166_0
                        have HC166_0 := Aside0.mk hl166_0
                        clear hi166_0 hl166_0
                        replace p166 := eq_true p166
                        replace q166 := eq_true q166
                        have hnb55 := NB158_159.out
                        have hnc55 := NB159_158.out
                        obtain ⟨hcz56_0, hcz56_1, hcz56_2, hcz56_3, hcz56_4, hfz56_0, hfz56_1, hfz56_2, hfz56_3, hfz56_4⟩ := cq5 BK158.out
                        go_wp2
                        go_roundg k5
                        case measure => have := HJ2.out; have := HK2.out; have := HK3.out; have := HK4.out; have := HK5.out; omega
                        case rel => exact ⟨(wrap64 (x95_5 + 1)), rs, H', ⟨by have := HJ2.out; have := HK2.out; have := HK3.out; have := HK4.out; have := HK5.out; omega⟩, ⟨by (with_reducible repeat (first | apply Kd.N_alloc | apply Kd.N_drewN | apply Kd.N_drew)); exact HO_77.out⟩, ⟨by (with_reducible repeat (first | apply Kd.V_alloc | apply Kd.V_drewN | apply Kd.V_drew)); exact HO_160002.out⟩, ⟨by (with_reducible repeat (first | apply Kd.V_alloc | apply Kd.V_drewN | apply Kd.V_drew)); exact HO_160003.out⟩, ⟨by (with_reducible repeat (first | refine blk_drewN ?_ _ | refine blk_drew ?_ | refine blk_alloc ?_ _)); exact BK158.out⟩, ⟨by (with_reducible repeat (first | refine blk_drewN ?_ _ | refine blk_drew ?_ | refine blk_alloc ?_ _)); exact BK159.out⟩, ⟨by repeat (first | (with_reducible exact HR164_0.out) | (with_reducible refine Kd.C_alloc ?_ _) | (with_reducible refine Kd.C_drewN ?_ _) | (with_reducible refine Kd.C_drew ?_) | exact HR164_0.out)⟩, ⟨by repeat (first | exact HR165_0.out | (with_reducible refine Kd.C_alloc ?_ _) | (with_reducible refine Kd.C_drewN ?_ _) | (with_reducible refine Kd.C_drew ?_))⟩, ⟨by repeat (first | (with_reducible first | exact HB.out | apply below_alloc | apply pw_below_drewN | apply below_drew1 | refine below_set ?_ GE158.out | refine below_set ?_ GE159.out) | exact HB.out)⟩⟩
                       ·rw [if_neg c54] at H
                        have c54b0 : (((rd_L2 (rd_L3 (rd_L4 y161 x79_3) x85_4) x95_5).length : Int) == a0_1) = false := beq_eq_false_iff_ne.mpr c54
                        have c54b1 : (((rd_L2 (rd_L3 (rd_L4 y161 x79_3) x85_4) x95_5).length : Int) != a0_1) = true := bne_iff_ne.mpr c54
                        obtain rfl := Option.some.inj H
                        have p166 : 0 ≤ (x95_5 : Int) := of_decide_eq_true asm
                        have q166 : x95_5 < ((rd_L3 (rd_L4 y161 x79_3) x85_4).length : Int) := of_decide_eq_true asm
                        obtain ⟨ad166, A166_0, c166_0, e166, hx166_0, hl166_0, hi166_0⟩ := at_L2 HR165_0.out x95_5 p166 q166
                        cases e166
                        (first | replace hx166_0 := (HB.out.cell (World.block_lt_of_cell? w _ hx166_0)).trans hx166_0 | skip)
                        have HR166_0 := Aside0.mk hi166_0
                        have HC166_0 := Aside0.mk hl166_0
                        clear hi166_0 hl166_0
                        replace p166 := eq_true p166
                        replace q166 := eq_true q166
                        have hnb57 := NB158_159.out
                        have hnc57 := NB159_158.out
                        obtain ⟨hcz58_0, hcz58_1, hcz58_2, hcz58_3, hcz58_4, hfz58_0, hfz58_1, hfz58_2, hfz58_3, hfz58_4⟩ := cq5 BK158.out
                        go_wp2
                        go_ret
                        exact ⟨by first | rfl | (simp [errW_none, errW_some] <;> rfl) | (simp [*, errW_none, errW_some] <;> rfl), by repeat (first | (with_reducible first | exact HB.out | apply below_alloc | apply pw_below_drewN | apply below_drew1 | refine below_set ?_ GE158.out | refine below_set ?_ GE159.out) | exact HB.out)⟩
                      ·rw [if_neg c53] at H
                       exact absurd H (by simp)
                     ·rw [if_neg c52] at H
                      exact absurd H (by simp)
                    ·rw [if_neg c51] at H
                     have c51b0 : decide (x95_5 < ((rd_L3 (rd_L4 y161 x79_3) x85_4).length : Int)) = false := decide_eq_false c51
                     clear c51
                     have H' := Aside0.mk H
                     clear H
                     go_wp2
                     go_roundg k5
                     case measure => have := HJ2.out; have := HK2.out; have := HK3.out; have := HK4.out; have := HK5.out; omega
                     case rel => exact ⟨(wrap64 (x85_4 + 1)), rs, H', ⟨by have := HJ2.out; have := HK2.out; have := HK3.out; have := HK4.out; have := HK5.out; omega⟩, ⟨by (with_reducible repeat (first | apply Kd.N_alloc | apply Kd.N_drewN | apply Kd.N_drew)); exact HO_77.out⟩, ⟨by (with_reducible repeat (first | apply Kd.V_alloc | apply Kd.V_drewN | apply Kd.V_drew)); exact HO_160002.out⟩, ⟨by (with_reducible repeat (first | apply Kd.V_alloc | apply Kd.V_drewN | apply Kd.V_drew)); exact HO_160003.out⟩, ⟨by (with_reducible repeat (first | refine blk_drewN ?_ _ | refine blk_drew ?_ | refine blk_alloc ?_ _)); exact BK158.out⟩, ⟨by (with_reducible repeat (first | refine blk_drewN ?_ _ | refine blk_drew ?_ | refine blk_alloc ?_ _)); exact BK159.out⟩, ⟨by repeat (first | (with_reducible exact HR164_0.out) | (with_reducible refine Kd.C_alloc ?_ _) | (with_reducible refine Kd.C_drewN ?_ _) | (with_reducible refine Kd.C_drew ?_) | exact HR164_0.out)⟩, ⟨by repeat (first | (with_reducible first | exact HB.out | apply below_alloc | apply pw_below_drewN | apply below_drew1 | refine below_set ?_ GE158.out | refine below_set ?_ GE159.out) | exact HB.out)⟩⟩
                 ·rw [if_neg c50] at H
                  have c50b0 : (((rd_L3 (rd_L4 y161 x79_3) x85_4).length : Int) == (wrap64 ((l1_0.length : Int) - a1_1))) = false := beq_eq_false_iff_ne.mpr c50
                  have c50b1 : (((rd_L3 (rd_L4 y161 x79_3) x85_4).length : Int) != (wrap64 ((l1_0.length : Int) - a1_1))) = true := bne_iff_ne.mpr c50
                  obtain rfl := Option.some.inj H
                  have p165 : 0 ≤ (x85_4 : Int) := of_decide_eq_true asm
                  have q165 : x85_4 < ((rd_L4 y161 x79_3).length : Int) := of_decide_eq_true asm
                  obtain ⟨ad165, A165_0, c165_0, e165, hx165_0, hl165_0, hi165_0⟩ := at_L3 HR164_0.out x85_4 p165 q165
                  cases e165
                  (first | replace hx165_0 := (HB.out.cell (World.block_lt_of_cell? w _ hx165_0)).trans hx165_0 | skip)
                  have HR165_0 := Aside0.mk hi165_0
                  have HC165_0 := Aside0.mk hl165_0
                  clear hi165_0 hl165_0
                  replace p165 := eq_true p165
                  replace q165 := eq_true q165
                  go_wp2
                  go_ret
                  exact ⟨by first | rfl | (simp [errW_none, errW_some] <;> rfl) | (simp [*, errW_none, errW_some] <;> rfl), by repeat (first | (with_reducible first | exact HB.out | apply below_alloc | apply pw_below_drewN | apply below_drew1 | refine below_set ?_ GE158.out | refine below_set ?_ GE159.out) | exact HB.out)⟩
                ·rw [if_neg c49] at H
                 exact absurd H (by simp)
               ·rw [if_neg c48] at H
                exact absurd H (by simp)
              ·rw [if_neg c47] at H
               have c47b0 : decide (x85_4 < ((rd_L4 y161 x79_3).length : Int)) = false := decide_eq_false c47
               clear c47
               have H' := Aside0.mk H
               clear H
               go_wp2
               go_roundg k4
               case measure => have := HJ2.out; have := HK2.out; have := HK3.out; have := HK4.out; omega
               case rel => exact ⟨(wrap64 (x79_3 + 1)), rs, H', ⟨by have := HJ2.out; have := HK2.out; have := HK3.out; have := HK4.out; omega⟩, ⟨by (with_reducible repeat (first | apply Kd.N_alloc | apply Kd.N_drewN | apply Kd.N_drew)); exact HO_77.out⟩, ⟨by (with_reducible repeat (first | apply Kd.V_alloc | apply Kd.V_drewN | apply Kd.V_drew)); exact HO_160002.out⟩, ⟨by (with_reducible repeat (first | apply Kd.V_alloc | apply Kd.V_drewN | apply Kd.V_drew)); exact HO_160003.out⟩, ⟨by (with_reducible repeat (first | refine blk_drewN ?_ _ | refine blk_drew ?_ | refine blk_alloc ?_ _)); exact BK158.out⟩, ⟨by (with_reducible repeat (first | refine blk_drewN ?_ _ | refine blk_drew ?_ | refine blk_alloc ?_ _)); exact BK159.out⟩, ⟨by repeat (first | (with_reducible first | exact HB.out | apply below_alloc | apply pw_below_drewN | apply below_drew1 | refine below_set ?_ GE158.out | refine below_set ?_ GE159.out) | exact HB.out)⟩⟩
           ·rw [if_neg c46] at H
            exact absurd H (by simp)
          ·rw [if_neg c45] at H
           exact absurd H (by simp)
         ·rw [if_neg c44] at H
          have c44b0 : decide (x79_3 < (y161.length : Int)) = false := decide_eq_false c44
          clear c44
          obtain rfl := Option.some.inj H
          go_wp2
          go_ret
          exact ⟨by first | rfl | (simp [errW_none, errW_some] <;> rfl) | (simp [*, errW_none, errW_some] <;> rfl), by repeat (first | (with_reducible first | exact HB.out | apply below_alloc | apply pw_below_drewN | apply below_drew1 | refine below_set ?_ GE158.out | refine below_set ?_ GE159.out) | exact HB.out)⟩

end Go.Proofs.Ytepbebelbcbciaa.Q
