/- Functions of the program as plain Lean functions, each with a proof that the program's call comes to what it says; and rows of statements over them. No condition but those that the theorems name. Written by a program of this session (myprint.py, over the kit's print with patches of its own). -/
import Derived.Test.YtepbebelbcbciaaQx0
import Derived.Test.YtepbebelbcbciaaQx1
import Derived.Test.YtepbebelbcbciaaQx2
import Derived.Test.YtepbebelbcbciaaQx3
import Derived.Test.YtepbebelbcbciaaZWords
namespace Go.Proofs.Ytepbebelbcbciaa.Q
open Go.RowKit Go.Proofs.YtepbebelbcbciaaW.PrintWords Go.Proofs.YtepbebelbcbciaaW.PrintLast Go.Proofs.YtepbebelbcbciaaW.PrintMore
attribute [local go_sem] max2_int min2_int max_two min_two max_three min_three max_four min_four   -- for this text's walks alone
set_option linter.unusedVariables false
set_option linter.unusedSimpArgs false

/-! ### block_Bytes: function 12 -/
mutual
def block_Bytes.l0 : Nat → List Int → List Int → Int → Int → List Int → Int → List (List (List Int)) → List (List (List Int)) → Option (ByteArray × Int)
 | 0, _, _, _, _, _, _, _, _ => none
 | k + 1, x7, x29, x30, x31, x185000, x185001, x185002, x185003 => if x31 < x30 then (if 0 ≤ x31 then (if x31 < (x29.length : Int) then (if x7.length < 140737488355328 then (block_Bytes.l0 k (x7 ++ [(rd x29 x31) % 256]) x29 x30 (wrap64 (x31 + 1)) x185000 x185001 x185002 x185003) else (none)) else (none)) else (none)) else ((some (([x185002, x185003] : List (List (List (List Int)))) : List (List (List (List Int))))).bind fun y193 => (block_Bytes.l1 k x7 y193 (y193.length : Int) 0))
def block_Bytes.l1 : Nat → List Int → List (List (List (List Int))) → Int → Int → Option (ByteArray × Int)
 | 0, _, _, _, _ => none
 | k + 1, x7, x47, x48, x49 => if x49 < x48 then (if 0 ≤ x49 then (if x49 < (x47.length : Int) then ((api_Num_38.f k (rd_L4 x47 x49)).bind fun t197 => ((api_Num_37.f k t197).bind fun t200 => (block_Bytes.l2 k x7 x47 x48 x49 t200 (t200.length : Int) 0))) else (none)) else (none)) else (some (strOfNums x7, 0))
def block_Bytes.l2 : Nat → List Int → List (List (List (List Int))) → Int → Int → List Int → Int → Int → Option (ByteArray × Int)
 | 0, _, _, _, _, _, _, _ => none
 | k + 1, x7, x47, x48, x49, x55, x56, x57 => if x57 < x56 then (if 0 ≤ x57 then (if x57 < (x55.length : Int) then ((some (([((rd x55 x57) / 16777216) % 256, ((rd x55 x57) / 65536) % 256, ((rd x55 x57) / 256) % 256, (rd x55 x57) % 256] : List Int) : List Int)).bind fun y204 => (if x7.length + y204.length < 140737488355328 then (block_Bytes.l2 k (x7 ++ y204) x47 x48 x49 x55 x56 (wrap64 (x57 + 1))) else (none))) else (none)) else (none)) else (block_Bytes.l1 k x7 x47 x48 (wrap64 (x49 + 1)))
end
def block_Bytes.f (k : Nat) (a0_0 : Int) (a0_1 : Int) (a0_2 : Int) (a0_3 : Int) (a0_4 : Int) (l1_0 : List Int) (a1_1 : Int) (l1_2 : List (List (List Int))) (l1_3 : List (List (List Int))) : Option (ByteArray × Int) := (block_Check.f k a0_0 a0_1 a0_2 a0_3 a0_4 l1_0 a1_1 l1_2 l1_3).bind fun t185 => (if t185 = 0 then (block_Bytes.l0 k (([((l1_0.length : Int)) % 256, (a1_1) % 256] : List Int)) l1_0 (l1_0.length : Int) 0 l1_0 a1_1 l1_2 l1_3) else (some ((⟨#[]⟩ : ByteArray), t185)))
theorem block_Bytes.mono_l : ∀ k, (∀ y0 y1 y2 y3 y4 y5 y6 y7, LeO (block_Bytes.l0 k y0 y1 y2 y3 y4 y5 y6 y7) (block_Bytes.l0 (k + 1) y0 y1 y2 y3 y4 y5 y6 y7)) ∧ (∀ y0 y1 y2 y3, LeO (block_Bytes.l1 k y0 y1 y2 y3) (block_Bytes.l1 (k + 1) y0 y1 y2 y3)) ∧ (∀ y0 y1 y2 y3 y4 y5 y6, LeO (block_Bytes.l2 k y0 y1 y2 y3 y4 y5 y6) (block_Bytes.l2 (k + 1) y0 y1 y2 y3 y4 y5 y6))
 | 0 => ⟨fun _ _ _ _ _ _ _ _ r h => by simp [block_Bytes.l0] at h, fun _ _ _ _ r h => by simp [block_Bytes.l1] at h, fun _ _ _ _ _ _ _ r h => by simp [block_Bytes.l2] at h⟩
 | k + 1 => by
  obtain ⟨ih0, ih1, ih2⟩ := block_Bytes.mono_l k
  refine ⟨?_, ?_, ?_⟩
  ·intro y0 y1 y2 y3 y4 y5 y6 y7
   unfold block_Bytes.l0
   repeat' first
   | (with_reducible exact ih0 _ _ _ _ _ _ _ _)
   | (with_reducible exact ih1 _ _ _ _)
   | (with_reducible exact ih2 _ _ _ _ _ _ _)
   | (with_reducible exact api_Num_37.mono _ _)
   | (with_reducible exact api_Num_38.mono _ _)
   | (with_reducible exact block_Check.mono _ _ _ _ _ _ _ _ _ _)
   | (with_reducible exact LeO.refl _)
   | (with_reducible exact LeO.none _)
   | (with_reducible refine LeO.ite ?_ ?_)
   | (with_reducible refine LeO.bind ?_ (fun _ => ?_))
   | exact ih0 _ _ _ _ _ _ _ _
   | exact ih1 _ _ _ _
   | exact ih2 _ _ _ _ _ _ _
   | exact api_Num_37.mono _ _
   | exact api_Num_38.mono _ _
   | exact block_Check.mono _ _ _ _ _ _ _ _ _ _
   | exact LeO.none _
   | refine LeO.ite ?_ ?_
   | refine LeO.bind ?_ (fun _ => ?_)
  ·intro y0 y1 y2 y3
   unfold block_Bytes.l1
   repeat' first
   | (with_reducible exact ih0 _ _ _ _ _ _ _ _)
   | (with_reducible exact ih1 _ _ _ _)
   | (with_reducible exact ih2 _ _ _ _ _ _ _)
   | (with_reducible exact api_Num_37.mono _ _)
   | (with_reducible exact api_Num_38.mono _ _)
   | (with_reducible exact block_Check.mono _ _ _ _ _ _ _ _ _ _)
   | (with_reducible exact LeO.refl _)
   | (with_reducible exact LeO.none _)
   | (with_reducible refine LeO.ite ?_ ?_)
   | (with_reducible refine LeO.bind ?_ (fun _ => ?_))
   | exact ih0 _ _ _ _ _ _ _ _
   | exact ih1 _ _ _ _
   | exact ih2 _ _ _ _ _ _ _
   | exact api_Num_37.mono _ _
   | exact api_Num_38.mono _ _
   | exact block_Check.mono _ _ _ _ _ _ _ _ _ _
   | exact LeO.none _
   | refine LeO.ite ?_ ?_
   | refine LeO.bind ?_ (fun _ => ?_)
  ·intro y0 y1 y2 y3 y4 y5 y6
   unfold block_Bytes.l2
   repeat' first
   | (with_reducible exact ih0 _ _ _ _ _ _ _ _)
   | (with_reducible exact ih1 _ _ _ _)
   | (with_reducible exact ih2 _ _ _ _ _ _ _)
   | (with_reducible exact api_Num_37.mono _ _)
   | (with_reducible exact api_Num_38.mono _ _)
   | (with_reducible exact block_Check.mono _ _ _ _ _ _ _ _ _ _)
   | (with_reducible exact LeO.refl _)
   | (with_reducible exact LeO.none _)
   | (with_reducible refine LeO.ite ?_ ?_)
   | (with_reducible refine LeO.bind ?_ (fun _ => ?_))
   | exact ih0 _ _ _ _ _ _ _ _
   | exact ih1 _ _ _ _
   | exact ih2 _ _ _ _ _ _ _
   | exact api_Num_37.mono _ _
   | exact api_Num_38.mono _ _
   | exact block_Check.mono _ _ _ _ _ _ _ _ _ _
   | exact LeO.none _
   | refine LeO.ite ?_ ?_
   | refine LeO.bind ?_ (fun _ => ?_)
theorem block_Bytes.mono : ∀ a0 a1 a2 a3 a4 a5 a6 a7 a8 k, LeO (block_Bytes.f k a0 a1 a2 a3 a4 a5 a6 a7 a8) (block_Bytes.f (k + 1) a0 a1 a2 a3 a4 a5 a6 a7 a8) := by
 intro a0 a1 a2 a3 a4 a5 a6 a7 a8 k
 obtain ⟨ih0, ih1, ih2⟩ := block_Bytes.mono_l k
 unfold block_Bytes.f
 repeat' first
   | (with_reducible exact ih0 _ _ _ _ _ _ _ _)
   | (with_reducible exact ih1 _ _ _ _)
   | (with_reducible exact ih2 _ _ _ _ _ _ _)
   | (with_reducible exact api_Num_37.mono _ _)
   | (with_reducible exact api_Num_38.mono _ _)
   | (with_reducible exact block_Check.mono _ _ _ _ _ _ _ _ _ _)
   | (with_reducible exact LeO.refl _)
   | (with_reducible exact LeO.none _)
   | (with_reducible refine LeO.ite ?_ ?_)
   | (with_reducible refine LeO.bind ?_ (fun _ => ?_))
   | exact ih0 _ _ _ _ _ _ _ _
   | exact ih1 _ _ _ _
   | exact ih2 _ _ _ _ _ _ _
   | exact api_Num_37.mono _ _
   | exact api_Num_38.mono _ _
   | exact block_Check.mono _ _ _ _ _ _ _ _ _ _
   | exact LeO.none _
   | refine LeO.ite ?_ ?_
   | refine LeO.bind ?_ (fun _ => ?_)
set_option maxHeartbeats 8000000 in
set_option maxRecDepth 100000 in
theorem block_Bytes.calls (k : Nat) (a0_0 : Int) (a0_1 : Int) (a0_2 : Int) (a0_3 : Int) (a0_4 : Int) (A1_0 : Option Addr) (c1_0 : Nat) (l1_0 : List Int) (a1_1 : Int) (P1_2_ : Nat → Prop) (A1_2 : Option Addr) (c1_2 : Nat) (l1_2 : List (List (List Int))) (P1_3_ : Nat → Prop) (A1_3 : Option Addr) (c1_3 : Nat) (l1_3 : List (List (List Int))) (r1 : ByteArray) (r2 : Int) (w : World) (hr1_0 : Kd.C (Kd.int .i64) w A1_0 l1_0.length l1_0) (hc1_0 : l1_0.length ≤ c1_0) (hs1_2 : Kd.V (Kd.slice 61 (Kd.slice 72 (Kd.int .i32))) 62 w w.heap.size (fun k_ => P1_2_ k_) (.slice A1_2 l1_2.length c1_2) l1_2) (hs1_3 : Kd.V (Kd.slice 61 (Kd.slice 72 (Kd.int .i32))) 62 w w.heap.size (fun k_ => P1_3_ k_) (.slice A1_3 l1_3.length c1_3) l1_3) (h : block_Bytes.f k a0_0 a0_1 a0_2 a0_3 a0_4 l1_0 a1_1 l1_2 l1_3 = some (r1, r2)) :
  Calls Try.prog 12 #[.agg #[.int .i64 a0_0, .int .i64 a0_1, .int .i64 a0_2, .int .i64 a0_3, .int .i64 a0_4], .agg #[.slice A1_0 l1_0.length c1_0, .int .i64 a1_1, .slice A1_2 l1_2.length c1_2, .slice A1_3 l1_3.length c1_3]] w fun e w' => e = .returned (.tuple #[.string r1, .int .i64 r2]) ∧ Below w.heap.size w w' := by
 have hu23 := Try.underlying23
 have hu29 := Try.underlying29
 have HR1_0 := Aside0.mk hr1_0
 have HC1_0 := Aside0.mk hc1_0
 clear hr1_0 hc1_0
 have HO1_2 := Aside0.mk (show Kd.V (Kd.slice 61 (Kd.slice 72 (Kd.int .i32))) 62 w w.heap.size (fun k_ => ((P1_2_ k_ ∨ P1_3_ k_) ∨ w.heap.size ≤ k_)) (.slice A1_2 l1_2.length c1_2) l1_2 from Kd.V_mono hs1_2 (fun k_ hk => .inl (.inl hk)))
 have HO1_3 := Aside0.mk (show Kd.V (Kd.slice 61 (Kd.slice 72 (Kd.int .i32))) 62 w w.heap.size (fun k_ => ((P1_2_ k_ ∨ P1_3_ k_) ∨ w.heap.size ≤ k_)) (.slice A1_3 l1_3.length c1_3) l1_3 from Kd.V_mono hs1_3 (fun k_ hk => .inl (.inr hk)))
 have HB := Aside0.mk (Below.refl w.heap.size w)
 have H : ((block_Check.f k a0_0 a0_1 a0_2 a0_3 a0_4 l1_0 a1_1 l1_2 l1_3).bind fun t185 => (if t185 = 0 then (block_Bytes.l0 k (([((l1_0.length : Int)) % 256, (a1_1) % 256] : List Int)) l1_0 (l1_0.length : Int) 0 l1_0 a1_1 l1_2 l1_3) else (some ((⟨#[]⟩ : ByteArray), t185)))) = some (r1, r2) := h
 clear h
 replace H := Option.bind_eq_some_iff.mp H
 obtain ⟨t185, A30, H⟩ := H
 replace H : (if t185 = 0 then (block_Bytes.l0 k (([((l1_0.length : Int)) % 256, (a1_1) % 256] : List Int)) l1_0 (l1_0.length : Int) 0 l1_0 a1_1 l1_2 l1_3) else (some ((⟨#[]⟩ : ByteArray), t185))) = some (r1, r2) := H
 have A3 := Aside0.mk A30
 clear A30
 by_cases c4 : t185 = 0
 ·rw [if_pos c4] at H
  have c4b0 : (t185 == 0) = true := beq_iff_eq.mpr c4
  have c4b1 : (t185 != 0) = false := bne_eq_false_iff_eq.mpr c4
  clear c4
  obtain ⟨y186, hy186⟩ : ∃ y_ : List Int, y_ = (([((l1_0.length : Int)) % 256, (a1_1) % 256] : List Int)) := ⟨_, rfl⟩
  replace H : (block_Bytes.l0 k y186 l1_0 (l1_0.length : Int) 0 l1_0 a1_1 l1_2 l1_3) = some (r1, r2) := by first | (rw [hy186]; with_reducible exact H) | (have H2_ := (Option.bind_some _ _).symm.trans H; rw [hy186]; with_reducible exact H2_) | (have H2_ := (Option.bind_some _ _).symm.trans H; with_reducible exact H2_) | with_reducible exact H | (rw [hy186]; exact H) | exact H
  have Ny186 := Aside0.mk hy186
  clear hy186
  have H' := Aside0.mk H
  clear H
  go_enter Try.func12, Try.ntmps12
  go_wp2_with (first | ((with_reducible refine gate_dst (N := 2) rfl ?_); refine bxe (N := 2) (cs := #[.int .i64 a0_0, .int .i64 a0_1, .int .i64 a0_2, .int .i64 a0_3, .int .i64 a0_4]) (t := 23) ?_; intro gb183 hg w5 hbox hb; have n0_ := Aside0.mk (Kd.V_below (Kd.V_elderB (by (with_reducible repeat (first | apply Kd.V_alloc | apply Kd.V_drewN | apply Kd.V_drew)); exact HO1_2.out) gb183 (Nat.le_of_eq hg.symm)) hb); have n1_ := Aside0.mk (Kd.V_below (Kd.V_elderB (by (with_reducible repeat (first | apply Kd.V_alloc | apply Kd.V_drewN | apply Kd.V_drew)); exact HO1_3.out) gb183 (Nat.le_of_eq hg.symm)) hb); have n2_ := Aside0.mk (below_step bel hb); have n3_ := Aside0.mk (hbox); have n4_ := Aside0.mk ((bsz hg : w.heap.size ≤ gb183)); have n5_ := Aside0.mk ((bsz hg : w.heap.size ≤ gb183)); clear HO1_2; clear HO1_3; clear HB; have HO1_2 := n0_; have HO1_3 := n1_; have HB := n2_; have BK183 := n3_; have GW183 := n4_; have GE183 := n5_; clear n0_ n1_ n2_ n3_ n4_ n5_; clear hb hbox hg) | ((with_reducible refine gate_dst (N := 3) rfl ?_); refine bxe (N := 3) (cs := #[.slice A1_0 l1_0.length c1_0, .int .i64 a1_1, .slice A1_2 l1_2.length c1_2, .slice A1_3 l1_3.length c1_3]) (t := 29) ?_; intro gb184 hg w6 hbox hb; have n0_ := Aside0.mk (Kd.V_below (Kd.V_elderB (by (with_reducible repeat (first | apply Kd.V_alloc | apply Kd.V_drewN | apply Kd.V_drew)); exact HO1_2.out) gb184 (Nat.le_of_eq hg.symm)) hb); have n1_ := Aside0.mk (Kd.V_below (Kd.V_elderB (by (with_reducible repeat (first | apply Kd.V_alloc | apply Kd.V_drewN | apply Kd.V_drew)); exact HO1_3.out) gb184 (Nat.le_of_eq hg.symm)) hb); have n2_ := Aside0.mk (bkb BK183.out hb); have n3_ := Aside0.mk (below_step bel hb); have n4_ := Aside0.mk (hbox); have n5_ := Aside0.mk ((bsz hg : w.heap.size ≤ gb184)); have n6_ := Aside0.mk ((bsz hg : w.heap.size ≤ gb184)); have n7_ := Aside0.mk ((nel BK183.out hg : gb183 ≠ gb184)); have n8_ := Aside0.mk ((neg_ BK183.out hg : gb184 ≠ gb183)); clear HO1_2; clear HO1_3; clear BK183; clear HB; have HO1_2 := n0_; have HO1_3 := n1_; have BK183 := n2_; have HB := n3_; have BK184 := n4_; have GW184 := n5_; have GE184 := n6_; have NB183_184 := n7_; have NB184_183 := n8_; clear n0_ n1_ n2_ n3_ n4_ n5_ n6_ n7_ n8_; clear hb hbox hg; have hnb7 := NB183_184.out; have hnc7 := NB184_183.out; obtain ⟨hcz8_0, hcz8_1, hcz8_2, hcz8_3, hcz8_4, hfz8_0, hfz8_1, hfz8_2, hfz8_3, hfz8_4⟩ := cq5 BK183.out; obtain ⟨hcz9_0, hcz9_1, hcz9_2, hcz9_3, hfz9_0, hfz9_1, hfz9_2, hfz9_3⟩ := cq4 BK184.out) | ((with_reducible refine gate_callee (f := 21) rfl ?_); refine goesL_ (some 16) rfl rfl Try.func21 (by kernel_rfl) rfl #[.agg #[.int .i64 a0_0, .int .i64 a0_1, .int .i64 a0_2, .int .i64 a0_3, .int .i64 a0_4], .agg #[.slice A1_0 l1_0.length c1_0, .int .i64 a1_1, .slice A1_2 l1_2.length c1_2, .slice A1_3 l1_3.length c1_3]] rfl ar ?_; (with_reducible refine (block_Check.calls k a0_0 a0_1 a0_2 a0_3 a0_4 _ _ l1_0 a1_1 (fun k_ => ((((P1_2_ k_ ∨ P1_3_ k_) ∨ w.heap.size ≤ k_) ∧ k_ ≠ gb183) ∧ k_ ≠ gb184)) _ _ l1_2 (fun k_ => ((((P1_2_ k_ ∨ P1_3_ k_) ∨ w.heap.size ≤ k_) ∧ k_ ≠ gb183) ∧ k_ ≠ gb184)) _ _ l1_3 t185 _ ?side1 ?side2 ?side3 ?side4 A3.out).mono ?_); (case side1 => repeat (first | exact (Kd.C_below HR1_0.out HB.out) | (with_reducible refine Kd.C_alloc ?_ _) | (with_reducible refine Kd.C_drewN ?_ _) | (with_reducible refine Kd.C_drew ?_))); (case side2 => exact HC1_0.out); (case side3 => exact HO1_2.out); (case side4 => exact HO1_3.out); rintro e w10 ⟨rfl, hb⟩; refine ⟨_, rfl, ?_⟩; have n0_ := Aside0.mk (Kd.V_below (by (with_reducible repeat (first | apply Kd.V_alloc | apply Kd.V_drewN | apply Kd.V_drew)); exact HO1_2.out) hb); have n1_ := Aside0.mk (Kd.V_below (by (with_reducible repeat (first | apply Kd.V_alloc | apply Kd.V_drewN | apply Kd.V_drew)); exact HO1_3.out) hb); have n2_ := Aside0.mk (bkb BK183.out hb); have n3_ := Aside0.mk (bkb BK184.out hb); have n4_ := Aside0.mk (below_step bel hb); clear HO1_2; clear HO1_3; clear BK183; clear BK184; clear HB; have HO1_2 := n0_; have HO1_3 := n1_; have BK183 := n2_; have BK184 := n3_; have HB := n4_; clear n0_ n1_ n2_ n3_ n4_; (try clear hb); (try clear hb2); (try clear hk); (try clear hi); obtain ⟨hcz11_0, hcz11_1, hcz11_2, hcz11_3, hfz11_0, hfz11_1, hfz11_2, hfz11_3⟩ := cq4 BK184.out) | ((with_reducible refine gate_dst (N := 27) rfl ?_); refine Kd.R_lit (Kd.int .u8) _ 5 ?hg (N := 27) ?hd (xs := ([((l1_0.length : Int)) % 256, (a1_1) % 256] : List Int)) (inner := [.int .u8 (((l1_0.length : Int)) % 256), .int .u8 ((a1_1) % 256)]) (ok := fun _ => True) (okp := fun _ => True) ?hr ?hp (fun _ hk => hk) trivial (Below.refl _ _) (Nat.le_refl _) (by simp) ?_; (case hd => rfl); (case hg => rfl); (case hr => first | (go_simp; done) | (go_simp; rfl)); (case hp => exact (Reps.one (show Kd.M (Kd.int .u8) _ _ _ (((l1_0.length : Int)) % 256) [.int .u8 (((l1_0.length : Int)) % 256)] from rfl) (Reps.one (show Kd.M (Kd.int .u8) _ _ _ ((a1_1) % 256) [.int .u8 ((a1_1) % 256)] from rfl) (Reps.none _ _)))); intro v187 w12 ho13 hb hg_ hnew_; clear hg_ hnew_; (first | rw [← Ny186.out] at ho13 | (simp only [Int.reduceToNat] at ho13; rw [← Ny186.out] at ho13)); have n0_ := Aside0.mk (Kd.V_elder' (by (with_reducible repeat (first | apply Kd.V_alloc | apply Kd.V_drewN | apply Kd.V_drew)); exact HO1_2.out) (Kd.R_base ho13) hb); have n1_ := Aside0.mk (Kd.V_elder' (by (with_reducible repeat (first | apply Kd.V_alloc | apply Kd.V_drewN | apply Kd.V_drew)); exact HO1_3.out) (Kd.R_base ho13) hb); have n2_ := Aside0.mk (Kd.R_lower (Kd.R_newM (M := fun k_ => (w.heap.size ≤ k_)) ho13 (below_size bel) (fun k_ h_ => h_)) (below_size bel)); have n3_ := Aside0.mk (bkb BK183.out hb); have n4_ := Aside0.mk (bkb BK184.out hb); have n5_ := Aside0.mk (below_step bel hb); clear HO1_2; clear HO1_3; clear BK183; clear BK184; clear HB; have HO1_2 := n0_; have HO1_3 := n1_; have HO188 := n2_; have BK183 := n3_; have BK184 := n4_; have HB := n5_; clear n0_ n1_ n2_ n3_ n4_ n5_; clear hb ho13; obtain ⟨hcz14_0, hcz14_1, hcz14_2, hcz14_3, hfz14_0, hfz14_1, hfz14_2, hfz14_3⟩ := cq4 BK184.out))
  go_loopg [7, 31] k (fun kq v7 v31 w' => ∃ (x7_1 : List Int) (x31_1 : Int), v31 = .int .i64 x31_1 ∧ Aside0 (block_Bytes.l0 kq x7_1 l1_0 (l1_0.length : Int) x31_1 l1_0 a1_1 l1_2 l1_3 = some (r1, r2)) ∧ Aside0 (kq ≤ k) ∧ Aside0 (Kd.R (Kd.int .u8) 5 w' w.heap.size (fun k_ => (w.heap.size ≤ k_)) v7 x7_1) ∧ Aside0 (Kd.V (Kd.slice 61 (Kd.slice 72 (Kd.int .i32))) 62 w' w.heap.size (fun k_ => ((P1_2_ k_ ∨ P1_3_ k_) ∨ w.heap.size ≤ k_) ∧ some k_ ≠ (v7 : Value).ownBlock ∧ k_ ≠ gb183 ∧ k_ ≠ gb184) (.slice A1_2 l1_2.length c1_2) l1_2) ∧ Aside0 (Kd.V (Kd.slice 61 (Kd.slice 72 (Kd.int .i32))) 62 w' w.heap.size (fun k_ => ((P1_2_ k_ ∨ P1_3_ k_) ∨ w.heap.size ≤ k_) ∧ some k_ ≠ (v7 : Value).ownBlock ∧ k_ ≠ gb183 ∧ k_ ≠ gb184) (.slice A1_3 l1_3.length c1_3) l1_3) ∧ Aside0 (w'.heap[gb183]? = some (.cells #[.int .i64 a0_0, .int .i64 a0_1, .int .i64 a0_2, .int .i64 a0_3, .int .i64 a0_4] 23 (0, 0))) ∧ Aside0 (w'.heap[gb184]? = some (.cells #[(.slice A1_0 l1_0.length c1_0), .int .i64 a1_1, (.slice A1_2 l1_2.length c1_2), (.slice A1_3 l1_3.length c1_3)] 29 (0, 0))) ∧ Aside0 (Below w.heap.size w w'))
  case atStart => exact ⟨(y186), (0), rs, H', ⟨Nat.le_refl _⟩, ⟨by (with_reducible repeat (first | apply Kd.R_alloc | apply Kd.R_drewN | apply Kd.R_drew)); exact Kd.R_mono HO188.out (fun _ hk => hk.1)⟩, ⟨by (with_reducible repeat (first | apply Kd.V_alloc | apply Kd.V_drewN | apply Kd.V_drew)); exact Kd.V_mono HO1_2.out (fun _ hk => ⟨hk.1.1.1, ⟨hk.2, ⟨hk.1.1.2, hk.1.2⟩⟩⟩)⟩, ⟨by (with_reducible repeat (first | apply Kd.V_alloc | apply Kd.V_drewN | apply Kd.V_drew)); exact Kd.V_mono HO1_3.out (fun _ hk => ⟨hk.1.1.1, ⟨hk.2, ⟨hk.1.1.2, hk.1.2⟩⟩⟩)⟩, ⟨by (with_reducible repeat (first | refine blk_drewN ?_ _ | refine blk_drew ?_ | refine blk_alloc ?_ _)); exact BK183.out⟩, ⟨by (with_reducible repeat (first | refine blk_drewN ?_ _ | refine blk_drew ?_ | refine blk_alloc ?_ _)); exact BK184.out⟩, ⟨by repeat (first | (with_reducible first | exact HB.out | apply below_alloc | apply pw_below_drewN | apply below_drew1 | refine below_set ?_ GE183.out | refine below_set ?_ GE184.out) | exact HB.out)⟩⟩
  case round =>
   clear H'
   try clear c1
   try clear c2
   try clear p2
   try clear c4
   try clear c4b0
   try clear c4b1
   try clear c7
   try clear c12
   try clear hcz11_0
   try clear hcz11_1
   try clear hcz11_2
   try clear hcz11_3
   try clear hcz14_0
   try clear hcz14_1
   try clear hcz14_2
   try clear hcz14_3
   try clear hcz8_0
   try clear hcz8_1
   try clear hcz8_2
   try clear hcz8_3
   try clear hcz8_4
   try clear hcz9_0
   try clear hcz9_1
   try clear hcz9_2
   try clear hcz9_3
   try clear hfz11_0
   try clear hfz11_1
   try clear hfz11_2
   try clear hfz11_3
   try clear hfz14_0
   try clear hfz14_1
   try clear hfz14_2
   try clear hfz14_3
   try clear hfz8_0
   try clear hfz8_1
   try clear hfz8_2
   try clear hfz8_3
   try clear hfz8_4
   try clear hfz9_0
   try clear hfz9_1
   try clear hfz9_2
   try clear hfz9_3
   obtain ⟨x7_1, x31_1, rfl, HA, HK1, HO_7, HO_185002, HO_185003, BK183, BK184, HB⟩ := hrel
   cases gk with
   | zero => exact absurd HA.out (by simp [block_Bytes.l0])
   | succ k1 =>
    have H := HA.out
    clear HA
    simp only [block_Bytes.l0] at H
    by_cases c15 : x31_1 < (l1_0.length : Int)
    ·rw [if_pos c15] at H
     have c15b0 : decide (x31_1 < (l1_0.length : Int)) = true := decide_eq_true c15
     clear c15
     by_cases c16 : 0 ≤ x31_1
     ·rw [if_pos c16] at H
      have c16b0 : decide (0 ≤ x31_1) = true := decide_eq_true c16
      clear c16
      by_cases c17 : x31_1 < (l1_0.length : Int)
      ·rw [if_pos c17] at H
       have c17b0 : decide (x31_1 < (l1_0.length : Int)) = true := decide_eq_true c17
       clear c17
       by_cases c18 : x7_1.length < 140737488355328
       ·rw [if_pos c18] at H
        have LMc18 := Aside0.mk c18
        clear c18
        obtain ⟨y190, hy190⟩ : ∃ y_ : List Int, y_ = (x7_1 ++ [(rd l1_0 x31_1) % 256]) := ⟨_, rfl⟩
        replace H : (block_Bytes.l0 k1 y190 l1_0 (l1_0.length : Int) (wrap64 (x31_1 + 1)) l1_0 a1_1 l1_2 l1_3) = some (r1, r2) := by first | (rw [hy190]; with_reducible exact H) | (have H2_ := (Option.bind_some _ _).symm.trans H; rw [hy190]; with_reducible exact H2_) | (have H2_ := (Option.bind_some _ _).symm.trans H; with_reducible exact H2_) | with_reducible exact H | (rw [hy190]; exact H) | exact H
        have Ny190 := Aside0.mk hy190
        clear hy190
        have H' := Aside0.mk H
        clear H
        have p189 : 0 ≤ (x31_1 : Int) := of_decide_eq_true asm
        have q189 : x31_1 < (l1_0.length : Int) := of_decide_eq_true asm
        obtain ⟨ad189, e189, hx189_0⟩ := Kd.at_int HR1_0.out x31_1 p189 q189
        cases e189
        (first | replace hx189_0 := (HB.out.cell (World.block_lt_of_cell? w _ hx189_0)).trans hx189_0 | skip)
        replace p189 := eq_true p189
        replace q189 := eq_true q189
        go_wp2_with (first | ((with_reducible refine gate_builtin (b := .append) (xs := #[.tmp 35, .tmp 38]) rfl ?_); at_builtin; refine Kd.R_append (Kd.int .u8) (w0 := w) w.heap.size rfl (.tmp 35) (.tmp 38) 80 5 (.int .u8 0) 1 rfl Try.underlying80 info5 rfl (by decide) (by omega) u7 x7_1 ((rd l1_0 x31_1) % 256) [.int .u8 ((rd l1_0 x31_1) % 256)] (fun k_ => (w.heap.size ≤ k_)) (fun _ => False) rfl rfl ?aP (fun _ hk => hk.elim) ?aF ?aO ?aB ?aS ?aL ?_; (case aP => exact rfl); (case aB => exact bel); (case aF => exact (fun k_ hk => (Nat.le_trans (below_size bel) hk))); (case aO => exact (rr HO_7.out)); (case aS => exact (below_size bel)); (case aL => have := LMc18.out; omega); intro v191 w19 ho hb hg hat; rw [← Ny190.out] at ho; have n0_ := Aside0.mk (Kd.V_afterv (ok := (fun k_ => ((P1_2_ k_ ∨ P1_3_ k_) ∨ w.heap.size ≤ k_) ∧ k_ ≠ gb183 ∧ k_ ≠ gb184)) (by (with_reducible repeat (first | apply Kd.V_alloc | apply Kd.V_drewN | apply Kd.V_drew)); exact Kd.V_mono HO_185002.out (fun _ hk => ⟨⟨hk.1, ⟨hk.2.2.1, hk.2.2.2⟩⟩, hk.2.1⟩)) hg hat); have n1_ := Aside0.mk (Kd.V_afterv (ok := (fun k_ => ((P1_2_ k_ ∨ P1_3_ k_) ∨ w.heap.size ≤ k_) ∧ k_ ≠ gb183 ∧ k_ ≠ gb184)) (by (with_reducible repeat (first | apply Kd.V_alloc | apply Kd.V_drewN | apply Kd.V_drew)); exact Kd.V_mono HO_185003.out (fun _ hk => ⟨⟨hk.1, ⟨hk.2.2.1, hk.2.2.2⟩⟩, hk.2.1⟩)) hg hat); have n2_ := Aside0.mk (blk_grown (g := gb183) (o := .cells #[.int .i64 a0_0, .int .i64 a0_1, .int .i64 a0_2, .int .i64 a0_3, .int .i64 a0_4] 23 (0, 0)) (by (with_reducible repeat (first | refine blk_drewN ?_ _ | refine blk_drew ?_ | refine blk_alloc ?_ _)); exact BK183.out) hg (Kd.R_ne HO_7.out BK183.out (by decide))); have n3_ := Aside0.mk (blk_grown (g := gb184) (o := .cells #[.slice (some ad189) l1_0.length c1_0, .int .i64 a1_1, .slice A1_2 l1_2.length c1_2, .slice A1_3 l1_3.length c1_3] 29 (0, 0)) (by (with_reducible repeat (first | refine blk_drewN ?_ _ | refine blk_drew ?_ | refine blk_alloc ?_ _)); exact BK184.out) hg (Kd.R_ne HO_7.out BK184.out (by decide))); have n4_ := Aside0.mk (hb); have n5_ := Aside0.mk (ho); clear HO_185002; clear HO_185003; clear BK183; clear BK184; clear HB; clear HO_7; have HO_185002 := n0_; have HO_185003 := n1_; have BK183 := n2_; have BK184 := n3_; have HB := n4_; have HO192 := n5_; clear n0_ n1_ n2_ n3_ n4_ n5_; clear ho hb hg hat))
        go_roundg k1
        case measure => have := HK1.out; omega
        case rel => exact ⟨(y190), (wrap64 (x31_1 + 1)), rs, H', ⟨by have := HK1.out; omega⟩, ⟨by (with_reducible repeat (first | apply Kd.R_alloc | apply Kd.R_drewN | apply Kd.R_drew)); exact HO192.out⟩, ⟨by (with_reducible repeat (first | apply Kd.V_alloc | apply Kd.V_drewN | apply Kd.V_drew)); exact Kd.V_mono HO_185002.out (fun _ hk => ⟨hk.1.1, ⟨hk.2, ⟨hk.1.2.1, hk.1.2.2⟩⟩⟩)⟩, ⟨by (with_reducible repeat (first | apply Kd.V_alloc | apply Kd.V_drewN | apply Kd.V_drew)); exact Kd.V_mono HO_185003.out (fun _ hk => ⟨hk.1.1, ⟨hk.2, ⟨hk.1.2.1, hk.1.2.2⟩⟩⟩)⟩, ⟨by (with_reducible repeat (first | refine blk_drewN ?_ _ | refine blk_drew ?_ | refine blk_alloc ?_ _)); exact BK183.out⟩, ⟨by (with_reducible repeat (first | refine blk_drewN ?_ _ | refine blk_drew ?_ | refine blk_alloc ?_ _)); exact BK184.out⟩, ⟨by repeat (first | (with_reducible first | exact HB.out | apply below_alloc | apply pw_below_drewN | apply below_drew1 | refine below_set ?_ GE183.out | refine below_set ?_ GE184.out) | exact HB.out)⟩⟩
       ·rw [if_neg c18] at H
        exact absurd H (by simp)
      ·rw [if_neg c17] at H
       exact absurd H (by simp)
     ·rw [if_neg c16] at H
      exact absurd H (by simp)
    ·rw [if_neg c15] at H
     have c15b0 : decide (x31_1 < (l1_0.length : Int)) = false := decide_eq_false c15
     clear c15
     obtain ⟨y193, hy193⟩ : ∃ y_ : List (List (List (List Int))), y_ = (([l1_2, l1_3] : List (List (List (List Int))))) := ⟨_, rfl⟩
     replace H : (block_Bytes.l1 k1 x7_1 y193 (y193.length : Int) 0) = some (r1, r2) := by first | (rw [hy193]; with_reducible exact H) | (have H2_ := (Option.bind_some _ _).symm.trans H; rw [hy193]; with_reducible exact H2_) | (have H2_ := (Option.bind_some _ _).symm.trans H; with_reducible exact H2_) | with_reducible exact H | (rw [hy193]; exact H) | exact H
     have Ny193 := Aside0.mk hy193
     clear hy193
     have H' := Aside0.mk H
     clear H
     have hnb20 := NB184_183.out
     have hnc20 := NB183_184.out
     obtain ⟨hcz21_0, hcz21_1, hcz21_2, hcz21_3, hfz21_0, hfz21_1, hfz21_2, hfz21_3⟩ := cq4 BK184.out
     go_wp2_with (first | ((with_reducible refine gate_dst (N := 47) rfl ?_); refine Kd.N_lit (Kd.slice 62 (Kd.slice 61 (Kd.slice 72 (Kd.int .i32)))) _ 25 ?hg (N' := 47) ?hd (xs := ([l1_2, l1_3] : List (List (List (List Int))))) (inner := [.slice A1_2 l1_2.length c1_2, .slice A1_3 l1_3.length c1_3]) (ok := (fun k_ => ((P1_2_ k_ ∨ P1_3_ k_) ∨ w.heap.size ≤ k_) ∧ some k_ ≠ (u7 : Value).ownBlock ∧ k_ ≠ gb183 ∧ k_ ≠ gb184)) (okp := (fun k_ => ((P1_2_ k_ ∨ P1_3_ k_) ∨ w.heap.size ≤ k_) ∧ some k_ ≠ (u7 : Value).ownBlock ∧ k_ ≠ gb183 ∧ k_ ≠ gb184)) ?hr ?hp (fun _ hk => hk) ((show ∀ k_, wr.heap.size ≤ k_ → (fun k_ => ((P1_2_ k_ ∨ P1_3_ k_) ∨ w.heap.size ≤ k_) ∧ some k_ ≠ (u7 : Value).ownBlock ∧ k_ ≠ gb183 ∧ k_ ≠ gb184) k_ from fun k_ hk => ⟨(.inr (Nat.le_trans (below_size bel) hk)), Kd.fresh' (Kd.R_lt (rr HO_7.out)) k_ hk, Kd.freshB (g := gb183) (o := .cells #[.int .i64 a0_0, .int .i64 a0_1, .int .i64 a0_2, .int .i64 a0_3, .int .i64 a0_4] 23 (0, 0)) (by (with_reducible repeat (first | refine blk_drewN ?_ _ | refine blk_drew ?_ | refine blk_alloc ?_ _)); exact BK183.out) k_ hk, Kd.freshB (g := gb184) (o := .cells #[.slice A1_0 l1_0.length c1_0, .int .i64 a1_1, .slice A1_2 l1_2.length c1_2, .slice A1_3 l1_3.length c1_3] 29 (0, 0)) (by (with_reducible repeat (first | refine blk_drewN ?_ _ | refine blk_drew ?_ | refine blk_alloc ?_ _)); exact BK184.out) k_ hk⟩) _ (Nat.le_refl _)) (Below.refl _ _) (Nat.le_refl _) (by simp) ?_; (case hd => rfl); (case hg => rfl); (case hr => first | (go_simp; done) | (go_simp; rfl)); (case hp => exact (Reps.one (show Kd.FK (Kd.slice 62 (Kd.slice 61 (Kd.slice 72 (Kd.int .i32)))) _ _ l1_2 [.slice A1_2 l1_2.length c1_2] from (Kd.FK_slice_mk (Kd.V_reads' (Kd.V_mono (ok' := (fun k_ => ((P1_2_ k_ ∨ P1_3_ k_) ∨ w.heap.size ≤ k_) ∧ some k_ ≠ (u7 : Value).ownBlock ∧ k_ ≠ gb183 ∧ k_ ≠ gb184)) (HO_185002.out) (fun k_ hk => ⟨hk.1, ⟨hk.2.1, ⟨hk.2.2.1, hk.2.2.2⟩⟩⟩))).2.1 (Kd.V_F (Kd.V_mono (ok' := (fun k_ => ((P1_2_ k_ ∨ P1_3_ k_) ∨ w.heap.size ≤ k_) ∧ some k_ ≠ (u7 : Value).ownBlock ∧ k_ ≠ gb183 ∧ k_ ≠ gb184)) (HO_185002.out) (fun k_ hk => ⟨hk.1, ⟨hk.2.1, ⟨hk.2.2.1, hk.2.2.2⟩⟩⟩))))) (Reps.one (show Kd.FK (Kd.slice 62 (Kd.slice 61 (Kd.slice 72 (Kd.int .i32)))) _ _ l1_3 [.slice A1_3 l1_3.length c1_3] from (Kd.FK_slice_mk (Kd.V_reads' (Kd.V_mono (ok' := (fun k_ => ((P1_2_ k_ ∨ P1_3_ k_) ∨ w.heap.size ≤ k_) ∧ some k_ ≠ (u7 : Value).ownBlock ∧ k_ ≠ gb183 ∧ k_ ≠ gb184)) (HO_185003.out) (fun k_ hk => ⟨hk.1, ⟨hk.2.1, ⟨hk.2.2.1, hk.2.2.2⟩⟩⟩))).2.1 (Kd.V_F (Kd.V_mono (ok' := (fun k_ => ((P1_2_ k_ ∨ P1_3_ k_) ∨ w.heap.size ≤ k_) ∧ some k_ ≠ (u7 : Value).ownBlock ∧ k_ ≠ gb183 ∧ k_ ≠ gb184)) (HO_185003.out) (fun k_ hk => ⟨hk.1, ⟨hk.2.1, ⟨hk.2.2.1, hk.2.2.2⟩⟩⟩))))) (Reps.none _ _)))); intro v194 w22 ho23 hb hg_ hnew_; clear hg_ hnew_; (first | rw [← Ny193.out] at ho23 | (simp only [Int.reduceToNat] at ho23; rw [← Ny193.out] at ho23)); have n0_ := Aside0.mk (Kd.R_below (rr HO_7.out) hb); have n1_ := Aside0.mk (Kd.V_elder' (by (with_reducible repeat (first | apply Kd.V_alloc | apply Kd.V_drewN | apply Kd.V_drew)); exact HO_185002.out) (Kd.N_base ho23) hb); have n2_ := Aside0.mk (Kd.V_elder' (by (with_reducible repeat (first | apply Kd.V_alloc | apply Kd.V_drewN | apply Kd.V_drew)); exact HO_185003.out) (Kd.N_base ho23) hb); have n3_ := Aside0.mk (Kd.N_lower ho23 (below_size bel)); have n4_ := Aside0.mk (bkb BK183.out hb); have n5_ := Aside0.mk (bkb BK184.out hb); have n6_ := Aside0.mk (below_step bel hb); clear HO_7; clear HO_185002; clear HO_185003; clear BK183; clear BK184; clear HB; have HO_7 := n0_; have HO_185002 := n1_; have HO_185003 := n2_; have HO195 := n3_; have BK183 := n4_; have BK184 := n5_; have HB := n6_; clear n0_ n1_ n2_ n3_ n4_ n5_ n6_; clear hb ho23; obtain ⟨Ao24, co24, eo24⟩ := Kd.N_slice HO195.out; subst eo24))
     go_loopg [7, 49] k1 (fun kq v7 v49 w' => ∃ (x7_2 : List Int) (x49_2 : Int), v49 = .int .i64 x49_2 ∧ Aside0 (block_Bytes.l1 kq x7_2 y193 (y193.length : Int) x49_2 = some (r1, r2)) ∧ Aside0 (kq ≤ k1) ∧ Aside0 (Kd.R (Kd.int .u8) 5 w' w.heap.size (fun k_ => (w.heap.size ≤ k_)) v7 x7_2) ∧ Aside0 (Kd.N (Kd.slice 62 (Kd.slice 61 (Kd.slice 72 (Kd.int .i32)))) 25 w' w.heap.size (fun k_ => ((P1_2_ k_ ∨ P1_3_ k_) ∨ w.heap.size ≤ k_) ∧ some k_ ≠ (v7 : Value).ownBlock ∧ k_ ≠ gb183 ∧ k_ ≠ gb184) (.slice Ao24 y193.length co24) y193) ∧ Aside0 (Kd.V (Kd.slice 61 (Kd.slice 72 (Kd.int .i32))) 62 w' w.heap.size (fun k_ => ((P1_2_ k_ ∨ P1_3_ k_) ∨ w.heap.size ≤ k_) ∧ some k_ ≠ (v7 : Value).ownBlock ∧ some k_ ≠ ((.slice Ao24 y193.length co24) : Value).ownBlock ∧ k_ ≠ gb183 ∧ k_ ≠ gb184) (.slice A1_2 l1_2.length c1_2) l1_2) ∧ Aside0 (Kd.V (Kd.slice 61 (Kd.slice 72 (Kd.int .i32))) 62 w' w.heap.size (fun k_ => ((P1_2_ k_ ∨ P1_3_ k_) ∨ w.heap.size ≤ k_) ∧ some k_ ≠ (v7 : Value).ownBlock ∧ some k_ ≠ ((.slice Ao24 y193.length co24) : Value).ownBlock ∧ k_ ≠ gb183 ∧ k_ ≠ gb184) (.slice A1_3 l1_3.length c1_3) l1_3) ∧ Aside0 (w'.heap[gb183]? = some (.cells #[.int .i64 a0_0, .int .i64 a0_1, .int .i64 a0_2, .int .i64 a0_3, .int .i64 a0_4] 23 (0, 0))) ∧ Aside0 (w'.heap[gb184]? = some (.cells #[(.slice A1_0 l1_0.length c1_0), .int .i64 a1_1, (.slice A1_2 l1_2.length c1_2), (.slice A1_3 l1_3.length c1_3)] 29 (0, 0))) ∧ Aside0 (Below w.heap.size w w'))
     case atStart => exact ⟨(x7_1), (0), rs, H', ⟨Nat.le_refl _⟩, ⟨by (with_reducible repeat (first | apply Kd.R_alloc | apply Kd.R_drewN | apply Kd.R_drew)); exact HO_7.out⟩, ⟨by (with_reducible repeat (first | apply Kd.N_alloc | apply Kd.N_drewN | apply Kd.N_drew)); exact HO195.out⟩, ⟨by (with_reducible repeat (first | apply Kd.V_alloc | apply Kd.V_drewN | apply Kd.V_drew)); exact Kd.V_mono HO_185002.out (fun _ hk => ⟨hk.1.1, ⟨hk.1.2.1, ⟨hk.2, ⟨hk.1.2.2.1, hk.1.2.2.2⟩⟩⟩⟩)⟩, ⟨by (with_reducible repeat (first | apply Kd.V_alloc | apply Kd.V_drewN | apply Kd.V_drew)); exact Kd.V_mono HO_185003.out (fun _ hk => ⟨hk.1.1, ⟨hk.1.2.1, ⟨hk.2, ⟨hk.1.2.2.1, hk.1.2.2.2⟩⟩⟩⟩)⟩, ⟨by (with_reducible repeat (first | refine blk_drewN ?_ _ | refine blk_drew ?_ | refine blk_alloc ?_ _)); exact BK183.out⟩, ⟨by (with_reducible repeat (first | refine blk_drewN ?_ _ | refine blk_drew ?_ | refine blk_alloc ?_ _)); exact BK184.out⟩, ⟨by repeat (first | (with_reducible first | exact HB.out | apply below_alloc | apply pw_below_drewN | apply below_drew1 | refine below_set ?_ GE183.out | refine below_set ?_ GE184.out) | exact HB.out)⟩⟩
     case round =>
      clear H'
      try clear c1
      try clear p1
      try clear q1
      try clear hx1
      try clear c2
      try clear p2
      try clear c4
      try clear c4b0
      try clear c4b1
      try clear p6
      try clear c7
      try clear c12
      try clear c15
      try clear c15b0
      try clear c16
      try clear c16b0
      try clear c17
      try clear c17b0
      try clear c18
      try clear p18
      try clear q18
      try clear hx18
      try clear c20
      try clear c21
      try clear hcz11_0
      try clear hcz11_1
      try clear hcz11_2
      try clear hcz11_3
      try clear hcz14_0
      try clear hcz14_1
      try clear hcz14_2
      try clear hcz14_3
      try clear hcz21_0
      try clear hcz21_1
      try clear hcz21_2
      try clear hcz21_3
      try clear hcz8_0
      try clear hcz8_1
      try clear hcz8_2
      try clear hcz8_3
      try clear hcz8_4
      try clear hcz9_0
      try clear hcz9_1
      try clear hcz9_2
      try clear hcz9_3
      try clear hfz11_0
      try clear hfz11_1
      try clear hfz11_2
      try clear hfz11_3
      try clear hfz14_0
      try clear hfz14_1
      try clear hfz14_2
      try clear hfz14_3
      try clear hfz21_0
      try clear hfz21_1
      try clear hfz21_2
      try clear hfz21_3
      try clear hfz8_0
      try clear hfz8_1
      try clear hfz8_2
      try clear hfz8_3
      try clear hfz8_4
      try clear hfz9_0
      try clear hfz9_1
      try clear hfz9_2
      try clear hfz9_3
      try clear hx189_0
      try clear p189
      try clear p2
      try clear q189
      obtain ⟨x7_2, x49_2, rfl, HA, HK2, HO_7, HO_47, HO_185002, HO_185003, BK183, BK184, HB⟩ := hrel
      cases gk with
      | zero => exact absurd HA.out (by simp [block_Bytes.l1])
      | succ k2 =>
       have H := HA.out
       clear HA
       simp only [block_Bytes.l1] at H
       by_cases c25 : x49_2 < (y193.length : Int)
       ·rw [if_pos c25] at H
        have c25b0 : decide (x49_2 < (y193.length : Int)) = true := decide_eq_true c25
        clear c25
        by_cases c26 : 0 ≤ x49_2
        ·rw [if_pos c26] at H
         have c26b0 : decide (0 ≤ x49_2) = true := decide_eq_true c26
         clear c26
         by_cases c27 : x49_2 < (y193.length : Int)
         ·rw [if_pos c27] at H
          have c27b0 : decide (x49_2 < (y193.length : Int)) = true := decide_eq_true c27
          clear c27
          replace H := Option.bind_eq_some_iff.mp H
          obtain ⟨t197, A280, H⟩ := H
          replace H : ((api_Num_37.f k2 t197).bind fun t200 => (block_Bytes.l2 k2 x7_2 y193 (y193.length : Int) x49_2 t200 (t200.length : Int) 0)) = some (r1, r2) := H
          have A28 := Aside0.mk A280
          clear A280
          replace H := Option.bind_eq_some_iff.mp H
          obtain ⟨t200, A290, H⟩ := H
          replace H : (block_Bytes.l2 k2 x7_2 y193 (y193.length : Int) x49_2 t200 (t200.length : Int) 0) = some (r1, r2) := H
          have A29 := Aside0.mk A290
          clear A290
          have H' := Aside0.mk H
          clear H
          have p196 : 0 ≤ (x49_2 : Int) := of_decide_eq_true asm
          have q196 : x49_2 < (y193.length : Int) := of_decide_eq_true asm
          obtain ⟨ad196, A196_0, c196_0, e196, hx196_0, hl196_0, hi196_0⟩ := at_L4 (Kd.N_reads' HO_47.out).2.2 x49_2 p196 q196
          cases e196
          obtain ⟨ce196, hce196, hMe196, hcc196⟩ := Kd.N_get HO_47.out [] x49_2 p196 (by first | exact q196 | exact of_decide_eq_true asm | (have e_ := (Kd.N_reads' HO_47.out).1; omega))
          obtain ⟨ua196_0, uc196_0, rfl, ul196_0, ge196_0⟩ := Kd.FK_slice_open hMe196
          have hv196_0 := hcc196 0 _ rfl
          rw [Nat.add_zero, show ((Kd.slice 62 (Kd.slice 61 (Kd.slice 72 (Kd.int .i32))))).sz = 1 from rfl, Nat.mul_one] at hv196_0
          replace hv196_0 := Option.some.inj (hv196_0.symm.trans hx196_0)
          injection hv196_0 with hva_ hvn_ hvc_
          rw [hva_] at ge196_0
          rw [hvc_] at ul196_0
          have HL196_0 := Aside0.mk (show Kd.V (Kd.slice 61 (Kd.slice 72 (Kd.int .i32))) 62 _ w.heap.size _ _ (rd_L4 y193 x49_2) from Kd.V_mk ul196_0 ge196_0)
          clear hva_ hvn_ hvc_ ge196_0 ul196_0
          clear hcc196 hce196
          have HR196_0 := Aside0.mk hi196_0
          have HC196_0 := Aside0.mk hl196_0
          clear hi196_0 hl196_0
          replace p196 := eq_true p196
          replace q196 := eq_true q196
          go_wp2_with (first | ((with_reducible refine gate_callee (f := 38) rfl ?_); refine goesL_ (some 54) rfl rfl Try.func38 (by kernel_rfl) rfl #[.slice A196_0 (rd_L4 y193 x49_2).length c196_0] rfl ar ?_; (with_reducible refine (api_Num_38.calls k2 (fun k_ => ((((P1_2_ k_ ∨ P1_3_ k_) ∨ w.heap.size ≤ k_) ∧ (some k_ ≠ (u7 : Value).ownBlock ∧ (k_ ≠ gb183 ∧ k_ ≠ gb184))) ∧ some k_ ≠ (.slice (some ad196) y193.length co24 : Value).ownBlock)) _ _ (rd_L4 y193 x49_2) t197 _ ?side1 A28.out).mono ?_); (case side1 => exact HL196_0.out); rintro e w30 ⟨v198, rfl, ho0, hb⟩; refine ⟨_, rfl, ?_⟩; have n0_ := Aside0.mk (Kd.R_below (rr HO_7.out) hb); have n1_ := Aside0.mk (Kd.N_elder' (by (with_reducible repeat (first | apply Kd.N_alloc | apply Kd.N_drewN | apply Kd.N_drew)); exact HO_47.out) (Kd.N_base ho0) hb); have n2_ := Aside0.mk (Kd.V_elder' (by (with_reducible repeat (first | apply Kd.V_alloc | apply Kd.V_drewN | apply Kd.V_drew)); exact HO_185002.out) (Kd.N_base ho0) hb); have n3_ := Aside0.mk (Kd.V_elder' (by (with_reducible repeat (first | apply Kd.V_alloc | apply Kd.V_drewN | apply Kd.V_drew)); exact HO_185003.out) (Kd.N_base ho0) hb); have n4_ := Aside0.mk (Kd.V_elder' (by (with_reducible repeat (first | apply Kd.V_alloc | apply Kd.V_drewN | apply Kd.V_drew)); exact HL196_0.out) (Kd.N_base ho0) hb); have n5_ := Aside0.mk (Kd.N_lower (Kd.N_mono (ok' := fun k_ => ((P1_2_ k_ ∨ P1_3_ k_) ∨ w.heap.size ≤ k_) ∧ some k_ ≠ (u7 : Value).ownBlock ∧ some k_ ≠ (.slice (some ad196) y193.length co24 : Value).ownBlock ∧ k_ ≠ gb183 ∧ k_ ≠ gb184) ho0 (fun k_ hk_ => ⟨Or.elim hk_ (fun hs_ => hs_.1.1) (fun hn_ => (.inr (Nat.le_trans (below_size bel) hn_))), Or.elim hk_ (fun hs_ => hs_.1.2.1) (fun hn_ => (Kd.fresh' (Kd.R_lt (rr HO_7.out)) k_ hn_)), Or.elim hk_ (fun hs_ => hs_.2) (fun hn_ => (Kd.fresh' (Kd.N_lt (by (with_reducible repeat (first | apply Kd.N_alloc | apply Kd.N_drewN | apply Kd.N_drew)); exact HO_47.out)) k_ hn_)), Or.elim hk_ (fun hs_ => hs_.1.2.2.1) (fun hn_ => (Kd.freshB (g := gb183) (o := .cells #[.int .i64 a0_0, .int .i64 a0_1, .int .i64 a0_2, .int .i64 a0_3, .int .i64 a0_4] 23 (0, 0)) (by (with_reducible repeat (first | refine blk_drewN ?_ _ | refine blk_drew ?_ | refine blk_alloc ?_ _)); exact BK183.out) k_ hn_)), Or.elim hk_ (fun hs_ => hs_.1.2.2.2) (fun hn_ => (Kd.freshB (g := gb184) (o := .cells #[.slice A1_0 l1_0.length c1_0, .int .i64 a1_1, .slice A1_2 l1_2.length c1_2, .slice A1_3 l1_3.length c1_3] 29 (0, 0)) (by (with_reducible repeat (first | refine blk_drewN ?_ _ | refine blk_drew ?_ | refine blk_alloc ?_ _)); exact BK184.out) k_ hn_))⟩)) (below_size bel)); have n6_ := Aside0.mk (bkb BK183.out hb); have n7_ := Aside0.mk (bkb BK184.out hb); have n8_ := Aside0.mk (Kd.C_below (by repeat (first | (with_reducible exact HR196_0.out) | (with_reducible refine Kd.C_alloc ?_ _) | (with_reducible refine Kd.C_drewN ?_ _) | (with_reducible refine Kd.C_drew ?_) | exact HR196_0.out)) hb); have n9_ := Aside0.mk (below_step bel hb); clear HO_7; clear HO_47; clear HO_185002; clear HO_185003; clear HL196_0; clear BK183; clear BK184; clear HR196_0; clear HB; have HO_7 := n0_; have HO_47 := n1_; have HO_185002 := n2_; have HO_185003 := n3_; have HL196_0 := n4_; have HO199 := n5_; have BK183 := n6_; have BK184 := n7_; have HR196_0 := n8_; have HB := n9_; clear n0_ n1_ n2_ n3_ n4_ n5_ n6_ n7_ n8_ n9_; (try clear hb); (try clear hb2); (try clear hk); (try clear hi); (try clear ho0); obtain ⟨Ao31, co31, eo31⟩ := Kd.N_slice HO199.out; subst eo31) | ((with_reducible refine gate_callee (f := 37) rfl ?_); refine goesL_ (some 55) rfl rfl Try.func37 (by kernel_rfl) rfl #[.slice Ao31 t197.length co31] rfl ar ?_; (with_reducible refine (api_Num_37.calls k2 _ _ t197 t200 _ ?side1 ?side2 A29.out).mono ?_); (case side1 => repeat (first | exact (Kd.N_reads' HO199.out).2.2 | (with_reducible refine Kd.C_alloc ?_ _) | (with_reducible refine Kd.C_drewN ?_ _) | (with_reducible refine Kd.C_drew ?_))); (case side2 => exact (Kd.N_reads' HO199.out).2.1); rintro e w32 ⟨v201, rfl, ho0, hb⟩; refine ⟨_, rfl, ?_⟩; have n0_ := Aside0.mk (Kd.R_below (rr HO_7.out) hb); have n1_ := Aside0.mk (Kd.N_elder' (by (with_reducible repeat (first | apply Kd.N_alloc | apply Kd.N_drewN | apply Kd.N_drew)); exact HO_47.out) (Kd.R_base ho0) hb); have n2_ := Aside0.mk (Kd.V_elder' (by (with_reducible repeat (first | apply Kd.V_alloc | apply Kd.V_drewN | apply Kd.V_drew)); exact HO_185002.out) (Kd.R_base ho0) hb); have n3_ := Aside0.mk (Kd.V_elder' (by (with_reducible repeat (first | apply Kd.V_alloc | apply Kd.V_drewN | apply Kd.V_drew)); exact HO_185003.out) (Kd.R_base ho0) hb); have n4_ := Aside0.mk (Kd.V_elder' (by (with_reducible repeat (first | apply Kd.V_alloc | apply Kd.V_drewN | apply Kd.V_drew)); exact HL196_0.out) (Kd.R_base ho0) hb); have n5_ := Aside0.mk (Kd.N_elder' (by (with_reducible repeat (first | apply Kd.N_alloc | apply Kd.N_drewN | apply Kd.N_drew)); exact HO199.out) (Kd.R_base ho0) hb); have n6_ := Aside0.mk (Kd.R_lower (Kd.R_newM (M := fun k_ => (w.heap.size ≤ k_)) ho0 (below_size bel) (fun k_ h_ => h_)) (below_size bel)); have n7_ := Aside0.mk (bkb BK183.out hb); have n8_ := Aside0.mk (bkb BK184.out hb); have n9_ := Aside0.mk (Kd.C_below (by repeat (first | (with_reducible exact HR196_0.out) | (with_reducible refine Kd.C_alloc ?_ _) | (with_reducible refine Kd.C_drewN ?_ _) | (with_reducible refine Kd.C_drew ?_) | exact HR196_0.out)) hb); have n10_ := Aside0.mk (below_step bel hb); clear HO_7; clear HO_47; clear HO_185002; clear HO_185003; clear HL196_0; clear HO199; clear BK183; clear BK184; clear HR196_0; clear HB; have HO_7 := n0_; have HO_47 := n1_; have HO_185002 := n2_; have HO_185003 := n3_; have HL196_0 := n4_; have HO199 := n5_; have HO202 := n6_; have BK183 := n7_; have BK184 := n8_; have HR196_0 := n9_; have HB := n10_; clear n0_ n1_ n2_ n3_ n4_ n5_ n6_ n7_ n8_ n9_ n10_; (try clear hb); (try clear hb2); (try clear hk); (try clear hi); (try clear ho0); obtain ⟨Ao33, co33, eo33⟩ := Kd.R_slice HO202.out; subst eo33))
          go_loopg [7, 57] k2 (fun kq v7 v57 w' => ∃ (x7_3 : List Int) (x57_3 : Int), v57 = .int .i64 x57_3 ∧ Aside0 (block_Bytes.l2 kq x7_3 y193 (y193.length : Int) x49_2 t200 (t200.length : Int) x57_3 = some (r1, r2)) ∧ Aside0 (kq ≤ k2) ∧ Aside0 (Kd.R (Kd.int .u8) 5 w' w.heap.size (fun k_ => (w.heap.size ≤ k_)) v7 x7_3) ∧ Aside0 (Kd.N (Kd.slice 62 (Kd.slice 61 (Kd.slice 72 (Kd.int .i32)))) 25 w' w.heap.size (fun k_ => ((P1_2_ k_ ∨ P1_3_ k_) ∨ w.heap.size ≤ k_) ∧ some k_ ≠ (v7 : Value).ownBlock ∧ some k_ ≠ ((.slice Ao33 t200.length co33) : Value).ownBlock ∧ k_ ≠ gb183 ∧ k_ ≠ gb184) (.slice (some ad196) y193.length co24) y193) ∧ Aside0 (Kd.R (Kd.int .i32) 72 w' w.heap.size (fun k_ => (w.heap.size ≤ k_)) (.slice Ao33 t200.length co33) t200) ∧ Aside0 (Kd.V (Kd.slice 61 (Kd.slice 72 (Kd.int .i32))) 62 w' w.heap.size (fun k_ => ((P1_2_ k_ ∨ P1_3_ k_) ∨ w.heap.size ≤ k_) ∧ some k_ ≠ (v7 : Value).ownBlock ∧ some k_ ≠ ((.slice (some ad196) y193.length co24) : Value).ownBlock ∧ some k_ ≠ ((.slice Ao33 t200.length co33) : Value).ownBlock ∧ k_ ≠ gb183 ∧ k_ ≠ gb184) (.slice A1_2 l1_2.length c1_2) l1_2) ∧ Aside0 (Kd.V (Kd.slice 61 (Kd.slice 72 (Kd.int .i32))) 62 w' w.heap.size (fun k_ => ((P1_2_ k_ ∨ P1_3_ k_) ∨ w.heap.size ≤ k_) ∧ some k_ ≠ (v7 : Value).ownBlock ∧ some k_ ≠ ((.slice (some ad196) y193.length co24) : Value).ownBlock ∧ some k_ ≠ ((.slice Ao33 t200.length co33) : Value).ownBlock ∧ k_ ≠ gb183 ∧ k_ ≠ gb184) (.slice A1_3 l1_3.length c1_3) l1_3) ∧ Aside0 (w'.heap[gb183]? = some (.cells #[.int .i64 a0_0, .int .i64 a0_1, .int .i64 a0_2, .int .i64 a0_3, .int .i64 a0_4] 23 (0, 0))) ∧ Aside0 (w'.heap[gb184]? = some (.cells #[(.slice A1_0 l1_0.length c1_0), .int .i64 a1_1, (.slice A1_2 l1_2.length c1_2), (.slice A1_3 l1_3.length c1_3)] 29 (0, 0))) ∧ Aside0 (Below w.heap.size w w'))
          case atStart => exact ⟨(x7_2), (0), rs, H', ⟨Nat.le_refl _⟩, ⟨by (with_reducible repeat (first | apply Kd.R_alloc | apply Kd.R_drewN | apply Kd.R_drew)); exact HO_7.out⟩, ⟨by (with_reducible repeat (first | apply Kd.N_alloc | apply Kd.N_drewN | apply Kd.N_drew)); exact Kd.N_mono HO_47.out (fun _ hk => ⟨hk.1.1.1, ⟨hk.1.1.2.1, ⟨hk.2, ⟨hk.1.1.2.2.1, hk.1.1.2.2.2⟩⟩⟩⟩)⟩, ⟨by (with_reducible repeat (first | apply Kd.R_alloc | apply Kd.R_drewN | apply Kd.R_drew)); exact Kd.R_mono HO202.out (fun _ hk => hk.1)⟩, ⟨by (with_reducible repeat (first | apply Kd.V_alloc | apply Kd.V_drewN | apply Kd.V_drew)); exact Kd.V_mono HO_185002.out (fun _ hk => ⟨hk.1.1.1, ⟨hk.1.1.2.1, ⟨hk.1.1.2.2.1, ⟨hk.2, ⟨hk.1.1.2.2.2.1, hk.1.1.2.2.2.2⟩⟩⟩⟩⟩)⟩, ⟨by (with_reducible repeat (first | apply Kd.V_alloc | apply Kd.V_drewN | apply Kd.V_drew)); exact Kd.V_mono HO_185003.out (fun _ hk => ⟨hk.1.1.1, ⟨hk.1.1.2.1, ⟨hk.1.1.2.2.1, ⟨hk.2, ⟨hk.1.1.2.2.2.1, hk.1.1.2.2.2.2⟩⟩⟩⟩⟩)⟩, ⟨by (with_reducible repeat (first | refine blk_drewN ?_ _ | refine blk_drew ?_ | refine blk_alloc ?_ _)); exact BK183.out⟩, ⟨by (with_reducible repeat (first | refine blk_drewN ?_ _ | refine blk_drew ?_ | refine blk_alloc ?_ _)); exact BK184.out⟩, ⟨by repeat (first | (with_reducible first | exact HB.out | apply below_alloc | apply pw_below_drewN | apply below_drew1 | refine below_set ?_ GE183.out | refine below_set ?_ GE184.out) | exact HB.out)⟩⟩
          case round =>
           clear H'
           try clear c1
           try clear p1
           try clear q1
           try clear hx1
           try clear c2
           try clear p2
           try clear c3
           try clear c4
           try clear c4b0
           try clear c4b1
           try clear p6
           try clear c7
           try clear c12
           try clear c15
           try clear c15b0
           try clear c16
           try clear c16b0
           try clear c17
           try clear c17b0
           try clear c18
           try clear p18
           try clear q18
           try clear hx18
           try clear c19
           try clear p19
           try clear q19
           try clear hx19
           try clear c20
           try clear c21
           try clear c25
           try clear c25b0
           try clear c26
           try clear c26b0
           try clear c27
           try clear c27b0
           try clear hcz11_0
           try clear hcz11_1
           try clear hcz11_2
           try clear hcz11_3
           try clear hcz14_0
           try clear hcz14_1
           try clear hcz14_2
           try clear hcz14_3
           try clear hcz21_0
           try clear hcz21_1
           try clear hcz21_2
           try clear hcz21_3
           try clear hcz8_0
           try clear hcz8_1
           try clear hcz8_2
           try clear hcz8_3
           try clear hcz8_4
           try clear hcz9_0
           try clear hcz9_1
           try clear hcz9_2
           try clear hcz9_3
           try clear hfz11_0
           try clear hfz11_1
           try clear hfz11_2
           try clear hfz11_3
           try clear hfz14_0
           try clear hfz14_1
           try clear hfz14_2
           try clear hfz14_3
           try clear hfz21_0
           try clear hfz21_1
           try clear hfz21_2
           try clear hfz21_3
           try clear hfz8_0
           try clear hfz8_1
           try clear hfz8_2
           try clear hfz8_3
           try clear hfz8_4
           try clear hfz9_0
           try clear hfz9_1
           try clear hfz9_2
           try clear hfz9_3
           try clear hx189_0
           try clear hx196_0
           try clear p1
           try clear p18
           try clear p189
           try clear p196
           try clear p2
           try clear p6
           try clear q1
           try clear q18
           try clear q189
           try clear q196
           obtain ⟨x7_3, x57_3, rfl, HA, HK3, HO_7, HO_47, HO_55, HO_185002, HO_185003, BK183, BK184, HB⟩ := hrel
           cases gk with
           | zero => exact absurd HA.out (by simp [block_Bytes.l2])
           | succ k3 =>
            have H := HA.out
            clear HA
            simp only [block_Bytes.l2] at H
            by_cases c34 : x57_3 < (t200.length : Int)
            ·rw [if_pos c34] at H
             have c34b0 : decide (x57_3 < (t200.length : Int)) = true := decide_eq_true c34
             clear c34
             by_cases c35 : 0 ≤ x57_3
             ·rw [if_pos c35] at H
              have c35b0 : decide (0 ≤ x57_3) = true := decide_eq_true c35
              clear c35
              by_cases c36 : x57_3 < (t200.length : Int)
              ·rw [if_pos c36] at H
               have c36b0 : decide (x57_3 < (t200.length : Int)) = true := decide_eq_true c36
               clear c36
               obtain ⟨y204, hy204⟩ : ∃ y_ : List Int, y_ = (([((rd t200 x57_3) / 16777216) % 256, ((rd t200 x57_3) / 65536) % 256, ((rd t200 x57_3) / 256) % 256, (rd t200 x57_3) % 256] : List Int)) := ⟨_, rfl⟩
               replace H : (if x7_3.length + y204.length < 140737488355328 then (block_Bytes.l2 k3 (x7_3 ++ y204) y193 (y193.length : Int) x49_2 t200 (t200.length : Int) (wrap64 (x57_3 + 1))) else (none)) = some (r1, r2) := by first | (rw [hy204]; with_reducible exact H) | (have H2_ := (Option.bind_some _ _).symm.trans H; rw [hy204]; with_reducible exact H2_) | (have H2_ := (Option.bind_some _ _).symm.trans H; with_reducible exact H2_) | with_reducible exact H | (rw [hy204]; exact H) | exact H
               have Ny204 := Aside0.mk hy204
               clear hy204
               by_cases c37 : x7_3.length + y204.length < 140737488355328
               ·rw [if_pos c37] at H
                have LMc37 := Aside0.mk c37
                clear c37
                obtain ⟨y207, hy207⟩ : ∃ y_ : List Int, y_ = (x7_3 ++ y204) := ⟨_, rfl⟩
                replace H : (block_Bytes.l2 k3 y207 y193 (y193.length : Int) x49_2 t200 (t200.length : Int) (wrap64 (x57_3 + 1))) = some (r1, r2) := by first | (rw [hy207]; with_reducible exact H) | (have H2_ := (Option.bind_some _ _).symm.trans H; rw [hy207]; with_reducible exact H2_) | (have H2_ := (Option.bind_some _ _).symm.trans H; with_reducible exact H2_) | with_reducible exact H | (rw [hy207]; exact H) | exact H
                have Ny207 := Aside0.mk hy207
                clear hy207
                have H' := Aside0.mk H
                clear H
                have p203 : 0 ≤ (x57_3 : Int) := of_decide_eq_true asm
                have q203 : x57_3 < (t200.length : Int) := of_decide_eq_true asm
                obtain ⟨ad203, e203, hx203_0⟩ := Kd.at_int (Kd.R_reads' HO_55.out).2.2 x57_3 p203 q203
                cases e203
                replace p203 := eq_true p203
                replace q203 := eq_true q203
                go_wp2_with (first | ((with_reducible refine gate_dst (N := 73) rfl ?_); refine Kd.R_lit (Kd.int .u8) _ 5 ?hg (N := 73) ?hd (xs := ([((rd t200 x57_3) / 16777216) % 256, ((rd t200 x57_3) / 65536) % 256, ((rd t200 x57_3) / 256) % 256, (rd t200 x57_3) % 256] : List Int)) (inner := [.int .u8 (((rd t200 x57_3) / 16777216) % 256), .int .u8 (((rd t200 x57_3) / 65536) % 256), .int .u8 (((rd t200 x57_3) / 256) % 256), .int .u8 ((rd t200 x57_3) % 256)]) (ok := fun _ => True) (okp := fun _ => True) ?hr ?hp (fun _ hk => hk) trivial (Below.refl _ _) (Nat.le_refl _) (by simp) ?_; (case hd => rfl); (case hg => rfl); (case hr => first | (go_simp; done) | (go_simp; rfl)); (case hp => exact (Reps.one (show Kd.M (Kd.int .u8) _ _ _ (((rd t200 x57_3) / 16777216) % 256) [.int .u8 (((rd t200 x57_3) / 16777216) % 256)] from rfl) (Reps.one (show Kd.M (Kd.int .u8) _ _ _ (((rd t200 x57_3) / 65536) % 256) [.int .u8 (((rd t200 x57_3) / 65536) % 256)] from rfl) (Reps.one (show Kd.M (Kd.int .u8) _ _ _ (((rd t200 x57_3) / 256) % 256) [.int .u8 (((rd t200 x57_3) / 256) % 256)] from rfl) (Reps.one (show Kd.M (Kd.int .u8) _ _ _ ((rd t200 x57_3) % 256) [.int .u8 ((rd t200 x57_3) % 256)] from rfl) (Reps.none _ _)))))); intro v205 w38 ho39 hb hg_ hnew_; clear hg_ hnew_; (first | rw [← Ny204.out] at ho39 | (simp only [Int.reduceToNat] at ho39; rw [← Ny204.out] at ho39)); have n0_ := Aside0.mk (Kd.R_elder' (rr HO_7.out) (Kd.R_base ho39) hb); have n1_ := Aside0.mk (Kd.N_elder' (by (with_reducible repeat (first | apply Kd.N_alloc | apply Kd.N_drewN | apply Kd.N_drew)); exact HO_47.out) (Kd.R_base ho39) hb); have n2_ := Aside0.mk (Kd.R_below (rr HO_55.out) hb); have n3_ := Aside0.mk (Kd.V_elder' (by (with_reducible repeat (first | apply Kd.V_alloc | apply Kd.V_drewN | apply Kd.V_drew)); exact HO_185002.out) (Kd.R_base ho39) hb); have n4_ := Aside0.mk (Kd.V_elder' (by (with_reducible repeat (first | apply Kd.V_alloc | apply Kd.V_drewN | apply Kd.V_drew)); exact HO_185003.out) (Kd.R_base ho39) hb); have n5_ := Aside0.mk (Kd.R_lower (Kd.R_new' (Kd.R_newM (M := fun k_ => (w.heap.size ≤ k_)) ho39 (below_size bel) (fun k_ h_ => h_)) (Kd.R_lt (rr HO_7.out))) (below_size bel)); have n6_ := Aside0.mk (bkb BK183.out hb); have n7_ := Aside0.mk (bkb BK184.out hb); have n8_ := Aside0.mk (below_step bel hb); clear HO_7; clear HO_47; clear HO_55; clear HO_185002; clear HO_185003; clear BK183; clear BK184; clear HB; have HO_7 := n0_; have HO_47 := n1_; have HO_55 := n2_; have HO_185002 := n3_; have HO_185003 := n4_; have HO206 := n5_; have BK183 := n6_; have BK184 := n7_; have HB := n8_; clear n0_ n1_ n2_ n3_ n4_ n5_ n6_ n7_ n8_; clear hb ho39; obtain ⟨Ao41, co41, eo41⟩ := Kd.R_slice HO206.out; subst eo41) | ((with_reducible refine gate_builtin (b := .append) (xs := #[.tmp 61, .tmp 73]) rfl ?_); at_builtin; refine Kd.R_append_rows (Kd.int .u8) (w0 := w) w.heap.size rfl (.tmp 61) (.tmp 73) 80 5 (.int .u8 0) 1 rfl Try.underlying80 info5 rfl (by decide) (by omega) u7 x7_3 y204 _ _ _ (fun k_ => (w.heap.size ≤ k_) ∧ some k_ ≠ (.slice Ao41 y204.length co41 : Value).ownBlock) (fun _ => False) rfl rfl ?aO ?aR (fun _ _ h => h) (fun _ h => h.elim) ?aF ?aB ?aS ?aL ?_; (case aR => repeat (first | exact (Kd.R_reads' HO206.out).2.2 | (with_reducible refine Kd.C_alloc ?_ _) | (with_reducible refine Kd.C_drewN ?_ _) | (with_reducible refine Kd.C_drew ?_))); (case aB => exact bel); (case aF => exact (fun k_ hk => ⟨(Nat.le_trans (below_size bel) hk), Kd.fresh' (Kd.R_lt (rr HO206.out)) k_ hk⟩)); (case aO => exact (rr HO_7.out)); (case aS => exact (below_size bel)); (case aL => have := LMc37.out; omega); intro v208 w40 ho hb hg hat; rw [← Ny207.out] at ho; have n0_ := Aside0.mk (Kd.N_afterv (ok := (fun k_ => ((P1_2_ k_ ∨ P1_3_ k_) ∨ w.heap.size ≤ k_) ∧ some k_ ≠ (.slice (some ad203) t200.length co33 : Value).ownBlock ∧ some k_ ≠ (.slice Ao41 y204.length co41 : Value).ownBlock ∧ k_ ≠ gb183 ∧ k_ ≠ gb184)) (by (with_reducible repeat (first | apply Kd.N_alloc | apply Kd.N_drewN | apply Kd.N_drew)); exact Kd.N_mono HO_47.out (fun _ hk => ⟨⟨hk.1.1, ⟨hk.1.2.2.1, ⟨hk.2, ⟨hk.1.2.2.2.1, hk.1.2.2.2.2⟩⟩⟩⟩, hk.1.2.1⟩)) hg hat); have n1_ := Aside0.mk (Kd.R_over' (rr HO_55.out) (Kd.R_typed (rr HO_7.out)) (by decide) hg); have n2_ := Aside0.mk (Kd.V_afterv (ok := (fun k_ => ((P1_2_ k_ ∨ P1_3_ k_) ∨ w.heap.size ≤ k_) ∧ some k_ ≠ (.slice (some ad196) y193.length co24 : Value).ownBlock ∧ some k_ ≠ (.slice (some ad203) t200.length co33 : Value).ownBlock ∧ some k_ ≠ (.slice Ao41 y204.length co41 : Value).ownBlock ∧ k_ ≠ gb183 ∧ k_ ≠ gb184)) (by (with_reducible repeat (first | apply Kd.V_alloc | apply Kd.V_drewN | apply Kd.V_drew)); exact Kd.V_mono HO_185002.out (fun _ hk => ⟨⟨hk.1.1, ⟨hk.1.2.2.1, ⟨hk.1.2.2.2.1, ⟨hk.2, ⟨hk.1.2.2.2.2.1, hk.1.2.2.2.2.2⟩⟩⟩⟩⟩, hk.1.2.1⟩)) hg hat); have n3_ := Aside0.mk (Kd.V_afterv (ok := (fun k_ => ((P1_2_ k_ ∨ P1_3_ k_) ∨ w.heap.size ≤ k_) ∧ some k_ ≠ (.slice (some ad196) y193.length co24 : Value).ownBlock ∧ some k_ ≠ (.slice (some ad203) t200.length co33 : Value).ownBlock ∧ some k_ ≠ (.slice Ao41 y204.length co41 : Value).ownBlock ∧ k_ ≠ gb183 ∧ k_ ≠ gb184)) (by (with_reducible repeat (first | apply Kd.V_alloc | apply Kd.V_drewN | apply Kd.V_drew)); exact Kd.V_mono HO_185003.out (fun _ hk => ⟨⟨hk.1.1, ⟨hk.1.2.2.1, ⟨hk.1.2.2.2.1, ⟨hk.2, ⟨hk.1.2.2.2.2.1, hk.1.2.2.2.2.2⟩⟩⟩⟩⟩, hk.1.2.1⟩)) hg hat); have n4_ := Aside0.mk (blk_grown (g := gb183) (o := .cells #[.int .i64 a0_0, .int .i64 a0_1, .int .i64 a0_2, .int .i64 a0_3, .int .i64 a0_4] 23 (0, 0)) (by (with_reducible repeat (first | refine blk_drewN ?_ _ | refine blk_drew ?_ | refine blk_alloc ?_ _)); exact BK183.out) hg (Kd.R_ne HO_7.out BK183.out (by decide))); have n5_ := Aside0.mk (blk_grown (g := gb184) (o := .cells #[.slice A1_0 l1_0.length c1_0, .int .i64 a1_1, .slice A1_2 l1_2.length c1_2, .slice A1_3 l1_3.length c1_3] 29 (0, 0)) (by (with_reducible repeat (first | refine blk_drewN ?_ _ | refine blk_drew ?_ | refine blk_alloc ?_ _)); exact BK184.out) hg (Kd.R_ne HO_7.out BK184.out (by decide))); have n6_ := Aside0.mk (Kd.R_after (ok := (fun k_ => (w.heap.size ≤ k_))) (by (with_reducible repeat (first | apply Kd.R_alloc | apply Kd.R_drewN | apply Kd.R_drew)); exact Kd.R_mono HO206.out (fun _ hk => ⟨hk.1.1, hk.2⟩)) hg hat); have n7_ := Aside0.mk (hb); have n8_ := Aside0.mk (ho); clear HO_47; clear HO_55; clear HO_185002; clear HO_185003; clear BK183; clear BK184; clear HO206; clear HB; clear HO_7; have HO_47 := n0_; have HO_55 := n1_; have HO_185002 := n2_; have HO_185003 := n3_; have BK183 := n4_; have BK184 := n5_; have HO206 := n6_; have HB := n7_; have HO209 := n8_; clear n0_ n1_ n2_ n3_ n4_ n5_ n6_ n7_ n8_; clear ho hb hg hat))
                go_roundg k3
                case measure => have := HK1.out; have := HK2.out; have := HK3.out; omega
                case rel => exact ⟨(y207), (wrap64 (x57_3 + 1)), rs, H', ⟨by have := HK1.out; have := HK2.out; have := HK3.out; omega⟩, ⟨by (with_reducible repeat (first | apply Kd.R_alloc | apply Kd.R_drewN | apply Kd.R_drew)); exact Kd.R_mono HO209.out (fun _ hk => hk.1)⟩, ⟨by (with_reducible repeat (first | apply Kd.N_alloc | apply Kd.N_drewN | apply Kd.N_drew)); exact Kd.N_mono HO_47.out (fun _ hk => ⟨hk.1.1, ⟨hk.2, ⟨hk.1.2.1, ⟨hk.1.2.2.2.1, hk.1.2.2.2.2⟩⟩⟩⟩)⟩, ⟨by (with_reducible repeat (first | apply Kd.R_alloc | apply Kd.R_drewN | apply Kd.R_drew)); exact HO_55.out⟩, ⟨by (with_reducible repeat (first | apply Kd.V_alloc | apply Kd.V_drewN | apply Kd.V_drew)); exact Kd.V_mono HO_185002.out (fun _ hk => ⟨hk.1.1, ⟨hk.2, ⟨hk.1.2.1, ⟨hk.1.2.2.1, ⟨hk.1.2.2.2.2.1, hk.1.2.2.2.2.2⟩⟩⟩⟩⟩)⟩, ⟨by (with_reducible repeat (first | apply Kd.V_alloc | apply Kd.V_drewN | apply Kd.V_drew)); exact Kd.V_mono HO_185003.out (fun _ hk => ⟨hk.1.1, ⟨hk.2, ⟨hk.1.2.1, ⟨hk.1.2.2.1, ⟨hk.1.2.2.2.2.1, hk.1.2.2.2.2.2⟩⟩⟩⟩⟩)⟩, ⟨by (with_reducible repeat (first | refine blk_drewN ?_ _ | refine blk_drew ?_ | refine blk_alloc ?_ _)); exact BK183.out⟩, ⟨by (with_reducible repeat (first | refine blk_drewN ?_ _ | refine blk_drew ?_ | refine blk_alloc ?_ _)); exact BK184.out⟩, ⟨by repeat (first | (with_reducible first | exact HB.out | apply below_alloc | apply pw_below_drewN | apply below_drew1 | refine below_set ?_ GE183.out | refine below_set ?_ GE184.out) | exact HB.out)⟩⟩
               ·rw [if_neg c37] at H
                exact absurd H (by simp)
              ·rw [if_neg c36] at H
               exact absurd H (by simp)
             ·rw [if_neg c35] at H
              exact absurd H (by simp)
            ·rw [if_neg c34] at H
             have c34b0 : decide (x57_3 < (t200.length : Int)) = false := decide_eq_false c34
             clear c34
             have H' := Aside0.mk H
             clear H
             go_wp2
             go_roundg k3
             case measure => have := HK1.out; have := HK2.out; have := HK3.out; omega
             case rel => exact ⟨(x7_3), (wrap64 (x49_2 + 1)), rs, H', ⟨by have := HK1.out; have := HK2.out; have := HK3.out; omega⟩, ⟨by (with_reducible repeat (first | apply Kd.R_alloc | apply Kd.R_drewN | apply Kd.R_drew)); exact HO_7.out⟩, ⟨by (with_reducible repeat (first | apply Kd.N_alloc | apply Kd.N_drewN | apply Kd.N_drew)); exact Kd.N_mono HO_47.out (fun _ hk => ⟨hk.1, ⟨hk.2.1, ⟨hk.2.2.2.1, hk.2.2.2.2⟩⟩⟩)⟩, ⟨by (with_reducible repeat (first | apply Kd.V_alloc | apply Kd.V_drewN | apply Kd.V_drew)); exact Kd.V_mono HO_185002.out (fun _ hk => ⟨hk.1, ⟨hk.2.1, ⟨hk.2.2.1, ⟨hk.2.2.2.2.1, hk.2.2.2.2.2⟩⟩⟩⟩)⟩, ⟨by (with_reducible repeat (first | apply Kd.V_alloc | apply Kd.V_drewN | apply Kd.V_drew)); exact Kd.V_mono HO_185003.out (fun _ hk => ⟨hk.1, ⟨hk.2.1, ⟨hk.2.2.1, ⟨hk.2.2.2.2.1, hk.2.2.2.2.2⟩⟩⟩⟩)⟩, ⟨by (with_reducible repeat (first | refine blk_drewN ?_ _ | refine blk_drew ?_ | refine blk_alloc ?_ _)); exact BK183.out⟩, ⟨by (with_reducible repeat (first | refine blk_drewN ?_ _ | refine blk_drew ?_ | refine blk_alloc ?_ _)); exact BK184.out⟩, ⟨by repeat (first | (with_reducible first | exact HB.out | apply below_alloc | apply pw_below_drewN | apply below_drew1 | refine below_set ?_ GE183.out | refine below_set ?_ GE184.out) | exact HB.out)⟩⟩
         ·rw [if_neg c27] at H
          exact absurd H (by simp)
        ·rw [if_neg c26] at H
         exact absurd H (by simp)
       ·rw [if_neg c25] at H
        have c25b0 : decide (x49_2 < (y193.length : Int)) = false := decide_eq_false c25
        clear c25
        simp only [Option.some.injEq, Prod.mk.injEq] at H
        obtain ⟨rfl, rfl⟩ := H
        have hcv42 := own_string (P := Try.prog) Try.underlying80 Try.underlying5 Try.underlying9 (Kd.own_of_R HO_7.out)
        go_wp2
        go_ret2
        exact ⟨by first | rfl | (simp [errW_none, errW_some] <;> rfl) | (simp [*, errW_none, errW_some] <;> rfl), by repeat (first | (with_reducible first | exact HB.out | apply below_alloc | apply pw_below_drewN | apply below_drew1 | refine below_set ?_ GE183.out | refine below_set ?_ GE184.out) | exact HB.out)⟩
 ·rw [if_neg c4] at H
  have c4b0 : (t185 == 0) = false := beq_eq_false_iff_ne.mpr c4
  have c4b1 : (t185 != 0) = true := bne_iff_ne.mpr c4
  simp only [Option.some.injEq, Prod.mk.injEq] at H
  obtain ⟨rfl, rfl⟩ := H
  go_enter Try.func12, Try.ntmps12
  go_wp2_with (first | ((with_reducible refine gate_dst (N := 2) rfl ?_); refine bxe (N := 2) (cs := #[.int .i64 a0_0, .int .i64 a0_1, .int .i64 a0_2, .int .i64 a0_3, .int .i64 a0_4]) (t := 23) ?_; intro gb183 hg w43 hbox hb; have n0_ := Aside0.mk (Kd.V_below (Kd.V_elderB (by (with_reducible repeat (first | apply Kd.V_alloc | apply Kd.V_drewN | apply Kd.V_drew)); exact HO1_2.out) gb183 (Nat.le_of_eq hg.symm)) hb); have n1_ := Aside0.mk (Kd.V_below (Kd.V_elderB (by (with_reducible repeat (first | apply Kd.V_alloc | apply Kd.V_drewN | apply Kd.V_drew)); exact HO1_3.out) gb183 (Nat.le_of_eq hg.symm)) hb); have n2_ := Aside0.mk (below_step bel hb); have n3_ := Aside0.mk (hbox); have n4_ := Aside0.mk ((bsz hg : w.heap.size ≤ gb183)); have n5_ := Aside0.mk ((bsz hg : w.heap.size ≤ gb183)); clear HO1_2; clear HO1_3; clear HB; have HO1_2 := n0_; have HO1_3 := n1_; have HB := n2_; have BK183 := n3_; have GW183 := n4_; have GE183 := n5_; clear n0_ n1_ n2_ n3_ n4_ n5_; clear hb hbox hg) | ((with_reducible refine gate_dst (N := 3) rfl ?_); refine bxe (N := 3) (cs := #[.slice A1_0 l1_0.length c1_0, .int .i64 a1_1, .slice A1_2 l1_2.length c1_2, .slice A1_3 l1_3.length c1_3]) (t := 29) ?_; intro gb184 hg w44 hbox hb; have n0_ := Aside0.mk (Kd.V_below (Kd.V_elderB (by (with_reducible repeat (first | apply Kd.V_alloc | apply Kd.V_drewN | apply Kd.V_drew)); exact HO1_2.out) gb184 (Nat.le_of_eq hg.symm)) hb); have n1_ := Aside0.mk (Kd.V_below (Kd.V_elderB (by (with_reducible repeat (first | apply Kd.V_alloc | apply Kd.V_drewN | apply Kd.V_drew)); exact HO1_3.out) gb184 (Nat.le_of_eq hg.symm)) hb); have n2_ := Aside0.mk (bkb BK183.out hb); have n3_ := Aside0.mk (below_step bel hb); have n4_ := Aside0.mk (hbox); have n5_ := Aside0.mk ((bsz hg : w.heap.size ≤ gb184)); have n6_ := Aside0.mk ((bsz hg : w.heap.size ≤ gb184)); have n7_ := Aside0.mk ((nel BK183.out hg : gb183 ≠ gb184)); have n8_ := Aside0.mk ((neg_ BK183.out hg : gb184 ≠ gb183)); clear HO1_2; clear HO1_3; clear BK183; clear HB; have HO1_2 := n0_; have HO1_3 := n1_; have BK183 := n2_; have HB := n3_; have BK184 := n4_; have GW184 := n5_; have GE184 := n6_; have NB183_184 := n7_; have NB184_183 := n8_; clear n0_ n1_ n2_ n3_ n4_ n5_ n6_ n7_ n8_; clear hb hbox hg; have hnb45 := NB183_184.out; have hnc45 := NB184_183.out; obtain ⟨hcz46_0, hcz46_1, hcz46_2, hcz46_3, hcz46_4, hfz46_0, hfz46_1, hfz46_2, hfz46_3, hfz46_4⟩ := cq5 BK183.out; obtain ⟨hcz47_0, hcz47_1, hcz47_2, hcz47_3, hfz47_0, hfz47_1, hfz47_2, hfz47_3⟩ := cq4 BK184.out) | ((with_reducible refine gate_callee (f := 21) rfl ?_); refine goesL_ (some 16) rfl rfl Try.func21 (by kernel_rfl) rfl #[.agg #[.int .i64 a0_0, .int .i64 a0_1, .int .i64 a0_2, .int .i64 a0_3, .int .i64 a0_4], .agg #[.slice A1_0 l1_0.length c1_0, .int .i64 a1_1, .slice A1_2 l1_2.length c1_2, .slice A1_3 l1_3.length c1_3]] rfl ar ?_; (with_reducible refine (block_Check.calls k a0_0 a0_1 a0_2 a0_3 a0_4 _ _ l1_0 a1_1 (fun k_ => ((((P1_2_ k_ ∨ P1_3_ k_) ∨ w.heap.size ≤ k_) ∧ k_ ≠ gb183) ∧ k_ ≠ gb184)) _ _ l1_2 (fun k_ => ((((P1_2_ k_ ∨ P1_3_ k_) ∨ w.heap.size ≤ k_) ∧ k_ ≠ gb183) ∧ k_ ≠ gb184)) _ _ l1_3 t185 _ ?side1 ?side2 ?side3 ?side4 A3.out).mono ?_); (case side1 => repeat (first | exact (Kd.C_below HR1_0.out HB.out) | (with_reducible refine Kd.C_alloc ?_ _) | (with_reducible refine Kd.C_drewN ?_ _) | (with_reducible refine Kd.C_drew ?_))); (case side2 => exact HC1_0.out); (case side3 => exact HO1_2.out); (case side4 => exact HO1_3.out); rintro e w48 ⟨rfl, hb⟩; refine ⟨_, rfl, ?_⟩; have n0_ := Aside0.mk (Kd.V_below (by (with_reducible repeat (first | apply Kd.V_alloc | apply Kd.V_drewN | apply Kd.V_drew)); exact HO1_2.out) hb); have n1_ := Aside0.mk (Kd.V_below (by (with_reducible repeat (first | apply Kd.V_alloc | apply Kd.V_drewN | apply Kd.V_drew)); exact HO1_3.out) hb); have n2_ := Aside0.mk (bkb BK183.out hb); have n3_ := Aside0.mk (bkb BK184.out hb); have n4_ := Aside0.mk (below_step bel hb); clear HO1_2; clear HO1_3; clear BK183; clear BK184; clear HB; have HO1_2 := n0_; have HO1_3 := n1_; have BK183 := n2_; have BK184 := n3_; have HB := n4_; clear n0_ n1_ n2_ n3_ n4_; (try clear hb); (try clear hb2); (try clear hk); (try clear hi)))
  go_ret2
  exact ⟨by first | rfl | (simp [errW_none, errW_some] <;> rfl) | (simp [*, errW_none, errW_some] <;> rfl), by repeat (first | (with_reducible first | exact HB.out | apply below_alloc | apply pw_below_drewN | apply below_drew1 | refine below_set ?_ GE183.out | refine below_set ?_ GE184.out) | exact HB.out)⟩

/-! ### tillerlaw11_Of: function 13 -/
def tillerlaw11_Of.f (k : Nat) (l0_0 : List Int) (a0_1 : Int) (l0_2 : List (List (List Int))) (l0_3 : List (List (List Int))) : Option (List Int × Int × (List (List (List Int))) × (List (List (List Int)))) := (tillerlaw08_Few.f l0_0 140).bind fun t212 => ((tillerlaw11_lists.f k l0_2).bind fun t215 => ((tillerlaw11_lists.f k l0_3).bind fun t218 => (some (t212, a0_1, t215, t218))))
theorem tillerlaw11_Of.mono : ∀ a0 a1 a2 a3 k, LeO (tillerlaw11_Of.f k a0 a1 a2 a3) (tillerlaw11_Of.f (k + 1) a0 a1 a2 a3) := by
 intro a0 a1 a2 a3 k
 unfold tillerlaw11_Of.f
 repeat' first
   | (with_reducible exact tillerlaw11_lists.mono _ _)
   | (with_reducible exact LeO.refl _)
   | (with_reducible exact LeO.none _)
   | (with_reducible refine LeO.ite ?_ ?_)
   | (with_reducible refine LeO.bind ?_ (fun _ => ?_))
   | exact tillerlaw11_lists.mono _ _
   | exact LeO.none _
   | refine LeO.ite ?_ ?_
   | refine LeO.bind ?_ (fun _ => ?_)
def tillerlaw11_Of.T1 : Bool × List (List Nat × List Nat) := (true, [([], []), ([0], [0]), ([1], [1]), ([], []), ([3], [3]), ([], []), ([5], [5]), ([6, 2], [6]), ([], []), ([8], [8]), ([9, 7], [9]), ([7, 10], [7, 10]), ([2, 4, 11], [2, 4, 11]), ([12, 10, 0, 1, 2, 3, 4, 5, 6, 7, 8, 9, 10, 11, 12], [12])])
def tillerlaw11_Of.B1 : List Nat := [0, 1, 3, 0, 8, 0, 32, 103, 0, 256, 999, 2023, 4095, 8191]
theorem tillerlaw11_Of.tab1 : rtab .any (opsOf Try.f13 1) = tillerlaw11_Of.T1 := by kernel_rfl
theorem tillerlaw11_Of.bits1 : waitsOk tillerlaw11_Of.T1.2 tillerlaw11_Of.B1 = true := by kernel_rfl
set_option maxHeartbeats 8000000 in
set_option maxRecDepth 100000 in
theorem tillerlaw11_Of.calls (k : Nat) (A0_0 : Option Addr) (c0_0 : Nat) (l0_0 : List Int) (a0_1 : Int) (A0_2 : Option Addr) (c0_2 : Nat) (l0_2 : List (List (List Int))) (A0_3 : Option Addr) (c0_3 : Nat) (l0_3 : List (List (List Int))) (r1 : List Int) (r2 : Int) (r3 : List (List (List Int))) (r4 : List (List (List Int))) (w : World) (hr0_0 : Kd.C (Kd.int .i64) w A0_0 l0_0.length l0_0) (hc0_0 : l0_0.length ≤ c0_0) (hr0_2 : Kd.C (Kd.slice 61 (Kd.slice 72 (Kd.int .i32))) w A0_2 l0_2.length l0_2) (hc0_2 : l0_2.length ≤ c0_2) (hr0_3 : Kd.C (Kd.slice 61 (Kd.slice 72 (Kd.int .i32))) w A0_3 l0_3.length l0_3) (hc0_3 : l0_3.length ≤ c0_3) (h : tillerlaw11_Of.f k l0_0 a0_1 l0_2 l0_3 = some (r1, r2, r3, r4)) :
  Calls Try.prog 13 #[.agg #[.slice A0_0 l0_0.length c0_0, .int .i64 a0_1, .slice A0_2 l0_2.length c0_2, .slice A0_3 l0_3.length c0_3]] w fun e w' => ∃ v0_ v2_ v3_ : Value, e = .returned (.agg #[v0_, .int .i64 r2, v2_, v3_]) ∧ Kd.R (Kd.int .i64) 3 w' w.heap.size (fun _ => True) v0_ r1 ∧ Kd.R (Kd.slice 61 (Kd.slice 72 (Kd.int .i32))) 62 w' w.heap.size (fun k_ => some k_ ≠ (v3_ : Value).ownBlock) v2_ r3 ∧ Kd.R (Kd.slice 61 (Kd.slice 72 (Kd.int .i32))) 62 w' w.heap.size (fun k_ => some k_ ≠ (v2_ : Value).ownBlock) v3_ r4 ∧ Below w.heap.size w w' := by
 have hu31 := Try.underlying31
 have hu29 := Try.underlying29
 have hu27 := Try.underlying27
 have HR0_0 := Aside0.mk hr0_0
 have HC0_0 := Aside0.mk hc0_0
 clear hr0_0 hc0_0
 have HR0_2 := Aside0.mk hr0_2
 have HC0_2 := Aside0.mk hc0_2
 clear hr0_2 hc0_2
 have HR0_3 := Aside0.mk hr0_3
 have HC0_3 := Aside0.mk hc0_3
 clear hr0_3 hc0_3
 have HB := Aside0.mk (Below.refl w.heap.size w)
 have H : ((tillerlaw08_Few.f l0_0 140).bind fun t212 => ((tillerlaw11_lists.f k l0_2).bind fun t215 => ((tillerlaw11_lists.f k l0_3).bind fun t218 => (some (t212, a0_1, t215, t218))))) = some (r1, r2, r3, r4) := h
 clear h
 replace H := Option.bind_eq_some_iff.mp H
 obtain ⟨t212, A20, H⟩ := H
 replace H : ((tillerlaw11_lists.f k l0_2).bind fun t215 => ((tillerlaw11_lists.f k l0_3).bind fun t218 => (some (t212, a0_1, t215, t218)))) = some (r1, r2, r3, r4) := H
 have A2 := Aside0.mk A20
 clear A20
 replace H := Option.bind_eq_some_iff.mp H
 obtain ⟨t215, A30, H⟩ := H
 replace H : ((tillerlaw11_lists.f k l0_3).bind fun t218 => (some (t212, a0_1, t215, t218))) = some (r1, r2, r3, r4) := H
 have A3 := Aside0.mk A30
 clear A30
 replace H := Option.bind_eq_some_iff.mp H
 obtain ⟨t218, A40, H⟩ := H
 replace H : (some (t212, a0_1, t215, t218)) = some (r1, r2, r3, r4) := H
 have A4 := Aside0.mk A40
 clear A40
 simp only [Option.some.injEq, Prod.mk.injEq] at H
 obtain ⟨rfl, rfl, rfl, rfl⟩ := H
 go_enter Try.func13, Try.ntmps13
 try go_wp2_with (first | ((with_reducible refine gate_dst (N := 1) rfl ?_); refine bxe (N := 1) (cs := #[.slice A0_0 l0_0.length c0_0, .int .i64 a0_1, .slice A0_2 l0_2.length c0_2, .slice A0_3 l0_3.length c0_3]) (t := 31) ?_; intro gb210 hg w5 hbox hb; have n0_ := Aside0.mk (below_step bel hb); have n1_ := Aside0.mk (hbox); have n2_ := Aside0.mk ((bsz hg : w.heap.size ≤ gb210)); have n3_ := Aside0.mk ((bsz hg : w.heap.size ≤ gb210)); clear HB; have HB := n0_; have BK210 := n1_; have GW210 := n2_; have GE210 := n3_; clear n0_ n1_ n2_ n3_; clear hb hbox hg) | ((with_reducible refine gate_dst (N := 2) rfl ?_); refine bxe (N := 2) (cs := #[.slice none 0 0, .int .i64 0, .slice none 0 0, .slice none 0 0]) (t := 29) ?_; intro gb211 hg w6 hbox hb; have n0_ := Aside0.mk (bkb BK210.out hb); have n1_ := Aside0.mk (below_step bel hb); have n2_ := Aside0.mk (hbox); have n3_ := Aside0.mk ((bsz hg : w.heap.size ≤ gb211)); have n4_ := Aside0.mk ((bsz hg : w.heap.size ≤ gb211)); have n5_ := Aside0.mk ((nel BK210.out hg : gb210 ≠ gb211)); have n6_ := Aside0.mk ((neg_ BK210.out hg : gb211 ≠ gb210)); clear BK210; clear HB; have BK210 := n0_; have HB := n1_; have BK211 := n2_; have GW211 := n3_; have GE211 := n4_; have NB210_211 := n5_; have NB211_210 := n6_; clear n0_ n1_ n2_ n3_ n4_ n5_ n6_; clear hb hbox hg))
 have n0_ := Aside0.mk (blk_drew BK210.out)
 have n1_ := Aside0.mk (blk_drew BK211.out)
 have n2_ := Aside0.mk (below_drew1 HB.out)
 clear BK210
 clear BK211
 clear HB
 have BK210 := n0_
 have BK211 := n1_
 have HB := n2_
 clear n0_ n1_ n2_
 refine start_ (n := 14) (S := fun w' => w'.cell? ⟨gb210, 0, none⟩ = some (.slice A0_0 l0_0.length c0_0) ∧ w'.cell? ⟨gb210, 1, none⟩ = some (.int .i64 a0_1) ∧ w'.cell? ⟨gb210, 2, none⟩ = some (.slice A0_2 l0_2.length c0_2) ∧ w'.cell? ⟨gb210, 3, none⟩ = some (.slice A0_3 l0_3.length c0_3)) (ds := []) #[false, false, false, false, false, false, false, false, false, false, false, false, false, false] (by kernel_rfl) rfl rfl ⟨(blk_cell BK210.out 0).trans rfl, (blk_cell BK210.out 1).trans rfl, (blk_cell BK210.out 2).trans rfl, (blk_cell BK210.out 3).trans rfl⟩ (fun hHeld => ?_); refine with_tabW tillerlaw11_Of.tab1 tillerlaw11_Of.bits1 (fun HT_ HW_ => ?_)
 generalize w6.drew = w7 at BK210 BK211 HB hHeld ⊢
 refine pure_ (i := 0) (N := some 3) (v := ?_) (a' := ?_) #[true, false, false, false, false, false, false, false, false, false, false, false, false, false] rfl rfl (any_of HT_.out (by kernel_rfl)) (fun _ _ _ h => h) (Or.inl ⟨by rfl, ?_⟩) ?_ ?_
 rotate_left
 ·intro w'
  go_simp
  with_reducible rfl
 rotate_left
 ·simp only [Act.put, List.setIfInBounds_toArray, List.set_cons_zero, List.set_cons_succ, i64_w, i32_w]
  rfl
 refine pure_ (i := 3) (N := some 6) (v := ?_) (a' := ?_) #[true, false, false, true, false, false, false, false, false, false, false, false, false, false] rfl rfl (any_of HT_.out (by kernel_rfl)) (fun _ _ _ h => h) (Or.inl ⟨by rfl, ?_⟩) ?_ ?_
 rotate_left
 ·intro w'
  go_simp
  with_reducible rfl
 rotate_left
 ·simp only [Act.put, List.setIfInBounds_toArray, List.set_cons_zero, List.set_cons_succ, i64_w, i32_w]
  rfl
 refine pure_ (i := 5) (N := some 8) (v := ?_) (a' := ?_) #[true, false, false, true, false, true, false, false, false, false, false, false, false, false] rfl rfl (any_of HT_.out (by kernel_rfl)) (fun _ _ _ h => h) (Or.inl ⟨by rfl, ?_⟩) ?_ ?_
 rotate_left
 ·intro w'
  go_simp
  with_reducible rfl
 rotate_left
 ·simp only [Act.put, List.setIfInBounds_toArray, List.set_cons_zero, List.set_cons_succ, i64_w, i32_w]
  rfl
 refine pure_ (i := 8) (N := some 11) (v := ?_) (a' := ?_) #[true, false, false, true, false, true, false, false, true, false, false, false, false, false] rfl rfl (any_of HT_.out (by kernel_rfl)) (fun _ _ _ h => h) (Or.inl ⟨by rfl, ?_⟩) ?_ ?_
 rotate_left
 ·intro w'
  go_simp
  with_reducible rfl
 rotate_left
 ·simp only [Act.put, List.setIfInBounds_toArray, List.set_cons_zero, List.set_cons_succ, i64_w, i32_w]
  rfl
 refine take_ (i := 1) (N := some 4) (v := ?_) (a' := ?_) #[true, true, false, true, false, true, false, false, true, false, false, false, false, false] rfl rfl (take_ofW HT_.out HW_.out (by kernel_rfl)) (fun _ _ _ h => h) (Or.inl ⟨by rfl, ?_⟩) hHeld ?_ ?_
 rotate_left
 ·rintro w' ⟨s0, s1, s2, s3⟩
  go_simp
  with_reducible rfl
 rotate_left
 ·simp only [Act.put, List.setIfInBounds_toArray, List.set_cons_zero, List.set_cons_succ, i64_w, i32_w]
  rfl
 refine take_ (i := 4) (N := some 7) (v := ?_) (a' := ?_) #[true, true, false, true, true, true, false, false, true, false, false, false, false, false] rfl rfl (take_ofW HT_.out HW_.out (by kernel_rfl)) (fun _ _ _ h => h) (Or.inl ⟨by rfl, ?_⟩) hHeld ?_ ?_
 rotate_left
 ·rintro w' ⟨s0, s1, s2, s3⟩
  go_simp
  with_reducible rfl
 rotate_left
 ·simp only [Act.put, List.setIfInBounds_toArray, List.set_cons_zero, List.set_cons_succ, i64_w, i32_w]
  rfl
 refine take_ (i := 6) (N := some 9) (v := ?_) (a' := ?_) #[true, true, false, true, true, true, true, false, true, false, false, false, false, false] rfl rfl (take_ofW HT_.out HW_.out (by kernel_rfl)) (fun _ _ _ h => h) (Or.inl ⟨by rfl, ?_⟩) hHeld ?_ ?_
 rotate_left
 ·rintro w' ⟨s0, s1, s2, s3⟩
  go_simp
  with_reducible rfl
 rotate_left
 ·simp only [Act.put, List.setIfInBounds_toArray, List.set_cons_zero, List.set_cons_succ, i64_w, i32_w]
  rfl
 refine take_ (i := 9) (N := some 12) (v := ?_) (a' := ?_) #[true, true, false, true, true, true, true, false, true, true, false, false, false, false] rfl rfl (take_ofW HT_.out HW_.out (by kernel_rfl)) (fun _ _ _ h => h) (Or.inl ⟨by rfl, ?_⟩) hHeld ?_ ?_
 rotate_left
 ·rintro w' ⟨s0, s1, s2, s3⟩
  go_simp
  with_reducible rfl
 rotate_left
 ·simp only [Act.put, List.setIfInBounds_toArray, List.set_cons_zero, List.set_cons_succ, i64_w, i32_w]
  rfl
 refine one_ (i := 2) (N := some 5) #[true, true, true, true, true, true, true, false, true, true, false, false, false, false] rfl rfl (one_of HT_.out (by kernel_rfl)) (by decide) (fun K hK => ?_)
 refine goes_ Try.func35 (by kernel_rfl) rfl #[.slice A0_0 l0_0.length c0_0, .int .i64 140] (by rfl) rfl rfl ar ?_
 with_reducible refine (tillerlaw08_Few.calls _ _ l0_0 140 t212 _ ?side1 ?side2 A2.out).mono ?_
 (case side1 => repeat (first | exact (Kd.C_below HR0_0.out HB.out) | (with_reducible refine Kd.C_alloc ?_ _) | (with_reducible refine Kd.C_drewN ?_ _) | (with_reducible refine Kd.C_drew ?_)))
 (case side2 => exact HC0_0.out)
 rintro e w8 ⟨v213, rfl, ho0, hb⟩
 refine ⟨_, rfl, ?_⟩
 have n0_ := Aside0.mk (Kd.R_lower ho0 (below_size bel))
 have n1_ := Aside0.mk (bkb BK210.out hb)
 have n2_ := Aside0.mk (bkb BK211.out hb)
 have n3_ := Aside0.mk (below_step bel hb)
 clear BK210
 clear BK211
 clear HB
 have HO214 := n0_
 have BK210 := n1_
 have BK211 := n2_
 have HB := n3_
 clear n0_ n1_ n2_ n3_
 (try clear hb)
 (try clear hb2)
 (try clear hk)
 (try clear hi)
 (try clear ho0)
 refine hK.out _ _ ⟨(blk_cell BK210.out 0).trans rfl, (blk_cell BK210.out 1).trans rfl, (blk_cell BK210.out 2).trans rfl, (blk_cell BK210.out 3).trans rfl⟩ (fun hHeld => ?_)
 clear hK K
 refine norm_ (a' := ?_) ?_ ?_
 rotate_left
 ·show Act.put _ (some 5) _ = _
  simp only [Act.put, List.setIfInBounds_toArray, List.set_cons_zero, List.set_cons_succ, i64_w, i32_w]
  rfl
 refine one_ (i := 7) (N := some 10) #[true, true, true, true, true, true, true, true, true, true, false, false, false, false] rfl rfl (one_of HT_.out (by kernel_rfl)) (by decide) (fun K hK => ?_)
 refine goes_ Try.func36 (by kernel_rfl) rfl #[.slice A0_2 l0_2.length c0_2] (by rfl) rfl rfl ar ?_
 with_reducible refine (tillerlaw11_lists.calls k _ _ l0_2 t215 _ ?side1 ?side2 A3.out).mono ?_
 (case side1 => repeat (first | exact (Kd.C_below HR0_2.out HB.out) | (with_reducible refine Kd.C_alloc ?_ _) | (with_reducible refine Kd.C_drewN ?_ _) | (with_reducible refine Kd.C_drew ?_)))
 (case side2 => exact HC0_2.out)
 rintro e w9 ⟨v216, rfl, ho0, hb⟩
 refine ⟨_, rfl, ?_⟩
 have n0_ := Aside0.mk (Kd.R_below (rr HO214.out) hb)
 have n1_ := Aside0.mk (Kd.R_lower ho0 (below_size bel))
 have n2_ := Aside0.mk (bkb BK210.out hb)
 have n3_ := Aside0.mk (bkb BK211.out hb)
 have n4_ := Aside0.mk (below_step bel hb)
 clear HO214
 clear BK210
 clear BK211
 clear HB
 have HO214 := n0_
 have HO217 := n1_
 have BK210 := n2_
 have BK211 := n3_
 have HB := n4_
 clear n0_ n1_ n2_ n3_ n4_
 (try clear hb)
 (try clear hb2)
 (try clear hk)
 (try clear hi)
 (try clear ho0)
 refine hK.out _ _ ⟨(blk_cell BK210.out 0).trans rfl, (blk_cell BK210.out 1).trans rfl, (blk_cell BK210.out 2).trans rfl, (blk_cell BK210.out 3).trans rfl⟩ (fun hHeld => ?_)
 clear hK K
 refine norm_ (a' := ?_) ?_ ?_
 rotate_left
 ·show Act.put _ (some 10) _ = _
  simp only [Act.put, List.setIfInBounds_toArray, List.set_cons_zero, List.set_cons_succ, i64_w, i32_w]
  rfl
 refine one_ (i := 10) (N := some 13) #[true, true, true, true, true, true, true, true, true, true, true, false, false, false] rfl rfl (one_of HT_.out (by kernel_rfl)) (by decide) (fun K hK => ?_)
 refine goes_ Try.func36 (by kernel_rfl) rfl #[.slice A0_3 l0_3.length c0_3] (by rfl) rfl rfl ar ?_
 with_reducible refine (tillerlaw11_lists.calls k _ _ l0_3 t218 _ ?side1 ?side2 A4.out).mono ?_
 (case side1 => repeat (first | exact (Kd.C_below HR0_3.out HB.out) | (with_reducible refine Kd.C_alloc ?_ _) | (with_reducible refine Kd.C_drewN ?_ _) | (with_reducible refine Kd.C_drew ?_)))
 (case side2 => exact HC0_3.out)
 rintro e w10 ⟨v219, rfl, ho0, hb⟩
 refine ⟨_, rfl, ?_⟩
 have n0_ := Aside0.mk (Kd.R_below (rr HO214.out) hb)
 have n1_ := Aside0.mk (Kd.R_elder' (rr HO217.out) (Kd.R_base ho0) hb)
 have n2_ := Aside0.mk (Kd.R_lower (Kd.R_new' ho0 (Kd.R_lt (rr HO217.out))) (below_size bel))
 have n3_ := Aside0.mk (bkb BK210.out hb)
 have n4_ := Aside0.mk (bkb BK211.out hb)
 have n5_ := Aside0.mk (below_step bel hb)
 clear HO214
 clear HO217
 clear BK210
 clear BK211
 clear HB
 have HO214 := n0_
 have HO217 := n1_
 have HO220 := n2_
 have BK210 := n3_
 have BK211 := n4_
 have HB := n5_
 clear n0_ n1_ n2_ n3_ n4_ n5_
 (try clear hb)
 (try clear hb2)
 (try clear hk)
 (try clear hi)
 (try clear ho0)
 obtain ⟨Ao11, co11, eo11⟩ := Kd.R_slice HO220.out
 (first | subst eo11 | (injection eo11 with f1_ f2_ f3_; have f4_ := f1_.symm; have f5_ := f3_.symm; clear f1_ f2_ f3_; subst f4_; subst f5_))
 obtain ⟨Ao12, co12, eo12⟩ := Kd.R_slice HO217.out
 (first | subst eo12 | (injection eo12 with f1_ f2_ f3_; have f4_ := f1_.symm; have f5_ := f3_.symm; clear f1_ f2_ f3_; subst f4_; subst f5_))
 obtain ⟨Ao13, co13, eo13⟩ := Kd.R_slice HO214.out
 (first | subst eo13 | (injection eo13 with f1_ f2_ f3_; have f4_ := f1_.symm; have f5_ := f3_.symm; clear f1_ f2_ f3_; subst f4_; subst f5_))
 refine hK.out _ _ ⟨(blk_cell BK210.out 0).trans rfl, (blk_cell BK210.out 1).trans rfl, (blk_cell BK210.out 2).trans rfl, (blk_cell BK210.out 3).trans rfl⟩ (fun hHeld => ?_)
 clear hK K
 refine norm_ (a' := ?_) ?_ ?_
 rotate_left
 ·show Act.put _ (some 13) _ = _
  simp only [Act.put, List.setIfInBounds_toArray, List.set_cons_zero, List.set_cons_succ, i64_w, i32_w]
  rfl
 refine pure_ (i := 11) (N := some 14) (v := ?_) (a' := ?_) #[true, true, true, true, true, true, true, true, true, true, true, true, false, false] rfl rfl (any_of HT_.out (by kernel_rfl)) (fun _ _ _ h => h) (Or.inl ⟨by rfl, ?_⟩) ?_ ?_
 rotate_left
 ·intro w'
  go_simp
  with_reducible rfl
 rotate_left
 ·simp only [Act.put, List.setIfInBounds_toArray, List.set_cons_zero, List.set_cons_succ, i64_w, i32_w]
  rfl
 refine pure_ (i := 12) (N := some 15) (v := ?_) (a' := ?_) #[true, true, true, true, true, true, true, true, true, true, true, true, true, false] rfl rfl (any_of HT_.out (by kernel_rfl)) (fun _ _ _ h => h) (Or.inl ⟨by rfl, ?_⟩) ?_ ?_
 rotate_left
 ·intro w'
  go_simp
  with_reducible rfl
 rotate_left
 ·simp only [Act.put, List.setIfInBounds_toArray, List.set_cons_zero, List.set_cons_succ, i64_w, i32_w]
  rfl
 refine one_ (i := 13) (N := none) #[true, true, true, true, true, true, true, true, true, true, true, true, true, true] rfl rfl (one_of HT_.out (by kernel_rfl)) (by decide) (fun K hK => ?_)
 have hs14 : w10.cell? ⟨gb211, 0, none⟩ = some (.slice none 0 0) := (blk_cell BK211.out 0).trans rfl
 have hfs14 := blk_frozen BK211.out 0
 have hns14_0 := NB210_211.out
 have hms14_0 := NB211_210.out
 have hs15 : w10.cell? ⟨gb211, 1, none⟩ = some (.int .i64 0) := (blk_cell BK211.out 1).trans rfl
 have hfs15 := blk_frozen BK211.out 1
 have hns15_0 := NB210_211.out
 have hms15_0 := NB211_210.out
 have hs16 : w10.cell? ⟨gb211, 2, none⟩ = some (.slice none 0 0) := (blk_cell BK211.out 2).trans rfl
 have hfs16 := blk_frozen BK211.out 2
 have hns16_0 := NB210_211.out
 have hms16_0 := NB211_210.out
 have hs17 : w10.cell? ⟨gb211, 3, none⟩ = some (.slice none 0 0) := (blk_cell BK211.out 3).trans rfl
 have hfs17 := blk_frozen BK211.out 3
 have hns17_0 := NB210_211.out
 have hms17_0 := NB211_210.out
 refine skip_ (w1 := ?_) (by rfl) rfl ?_ ?_
 rotate_left
 ·go_simp
  rfl
 refine hK.out _ _ ⟨((cell_far (p := ⟨gb211, _, none⟩) NB210_211.out _).trans (((cell_far (p := ⟨gb211, _, none⟩) NB210_211.out _).trans (((cell_far (p := ⟨gb211, _, none⟩) NB210_211.out _).trans (((cell_far (p := ⟨gb211, _, none⟩) NB210_211.out _).trans (hHeld.1)))))))), ((cell_far (p := ⟨gb211, _, none⟩) NB210_211.out _).trans (((cell_far (p := ⟨gb211, _, none⟩) NB210_211.out _).trans (((cell_far (p := ⟨gb211, _, none⟩) NB210_211.out _).trans (((cell_far (p := ⟨gb211, _, none⟩) NB210_211.out _).trans (hHeld.2.1)))))))), ((cell_far (p := ⟨gb211, _, none⟩) NB210_211.out _).trans (((cell_far (p := ⟨gb211, _, none⟩) NB210_211.out _).trans (((cell_far (p := ⟨gb211, _, none⟩) NB210_211.out _).trans (((cell_far (p := ⟨gb211, _, none⟩) NB210_211.out _).trans (hHeld.2.2.1)))))))), ((cell_far (p := ⟨gb211, _, none⟩) NB210_211.out _).trans (((cell_far (p := ⟨gb211, _, none⟩) NB210_211.out _).trans (((cell_far (p := ⟨gb211, _, none⟩) NB210_211.out _).trans (((cell_far (p := ⟨gb211, _, none⟩) NB210_211.out _).trans (hHeld.2.2.2))))))))⟩ (fun hHeld => ?_)
 clear hK K
 refine done_ (done_of HT_.out (by kernel_rfl)) ?_
 try go_wp2
 refine bodyPost_ret (results_cell_row rfl _ _ gb211 29 #[.slice Ao13 t212.length co13, .int .i64 a0_1, .slice Ao12 t215.length co12, .slice Ao11 t218.length co11] (0, 0) _ rfl (bkp BK211.out) Try.underlying29 rfl (by kernel_rfl)) rfl ?_
 exact ⟨_, _, _, by first | rfl | (simp [errW_none, errW_some] <;> rfl) | (simp [*, errW_none, errW_some] <;> rfl), by (with_reducible repeat (first | apply Kd.R_alloc | apply Kd.R_drewN | apply Kd.R_drew)); exact Kd.R_mono (Kd.R_far (p := ⟨gb211, 3, none⟩) (Kd.R_far (p := ⟨gb211, 2, none⟩) (Kd.R_far (p := ⟨gb211, 1, none⟩) (Kd.R_far (p := ⟨gb211, 0, none⟩) (Kd.R_types HO214.out BK211.out (by decide)) (fun _ hk => hk.2) (.slice Ao13 t212.length co13)) (fun _ hk => hk.2) (.int .i64 a0_1)) (fun _ hk => hk.2) (.slice Ao12 t215.length co12)) (fun _ hk => hk.2) (.slice Ao11 t218.length co11)) (fun _ hk => trivial), by (with_reducible repeat (first | apply Kd.R_alloc | apply Kd.R_drewN | apply Kd.R_drew)); exact Kd.R_mono (Kd.R_far (p := ⟨gb211, 3, none⟩) (Kd.R_far (p := ⟨gb211, 2, none⟩) (Kd.R_far (p := ⟨gb211, 1, none⟩) (Kd.R_far (p := ⟨gb211, 0, none⟩) (Kd.R_types HO217.out BK211.out (by decide)) (fun _ hk => hk.2) (.slice Ao13 t212.length co13)) (fun _ hk => hk.2) (.int .i64 a0_1)) (fun _ hk => hk.2) (.slice Ao12 t215.length co12)) (fun _ hk => hk.2) (.slice Ao11 t218.length co11)) (fun _ hk => hk.1.2), by (with_reducible repeat (first | apply Kd.R_alloc | apply Kd.R_drewN | apply Kd.R_drew)); exact Kd.R_mono (Kd.R_far (p := ⟨gb211, 3, none⟩) (Kd.R_far (p := ⟨gb211, 2, none⟩) (Kd.R_far (p := ⟨gb211, 1, none⟩) (Kd.R_far (p := ⟨gb211, 0, none⟩) (Kd.R_types HO220.out BK211.out (by decide)) (fun _ hk => hk.2) (.slice Ao13 t212.length co13)) (fun _ hk => hk.2) (.int .i64 a0_1)) (fun _ hk => hk.2) (.slice Ao12 t215.length co12)) (fun _ hk => hk.2) (.slice Ao11 t218.length co11)) (fun _ hk => hk.1.2), by repeat (first | (with_reducible first | exact HB.out | apply below_alloc | apply pw_below_drewN | apply below_drew1 | refine below_set ?_ GE210.out | refine below_set ?_ GE211.out) | exact HB.out)⟩

end Go.Proofs.Ytepbebelbcbciaa.Q
