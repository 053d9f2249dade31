/- Functions of the program as plain Lean functions, each with a proof that the program's call comes to what it says; and rows of statements over them. No condition but those that the theorems name. Written by a program of this session (myprint.py, over the kit's print with patches of its own). -/
import Derived.Test.YtepbebelbcbciaaQx0
import Derived.Test.YtepbebelbcbciaaQx12
import Derived.Test.YtepbebelbcbciaaZWords
namespace Go.Proofs.Ytepbebelbcbciaa.Q
open Go.RowKit Go.Proofs.YtepbebelbcbciaaW.PrintWords Go.Proofs.YtepbebelbcbciaaW.PrintLast Go.Proofs.YtepbebelbcbciaaW.PrintMore
attribute [local go_sem] max2_int min2_int max_two min_two max_three min_three max_four min_four   -- for this text's walks alone
set_option linter.unusedVariables false
set_option linter.unusedSimpArgs false

/-! ### tillerref11_Same: function 18 -/
mutual
def tillerref11_Same.j0 : Nat → Bool → List Int → Int → List (List (List Int)) → List (List (List Int)) → List Int → Int → List (List (List Int)) → List (List (List Int)) → Option (Bool)
 | 0, _, _, _, _, _, _, _, _, _ => none
 | k + 1, x35, x396000, x396001, x396002, x396003, x397000, x397001, x397002, x397003 => if x35 = true then (some false) else (tillerref11_Same.l0 k (x396000.length : Int) 0 x396000 x396001 x396002 x396003 x397000 x397001 x397002 x397003)
def tillerref11_Same.l0 : Nat → Int → Int → List Int → Int → List (List (List Int)) → List (List (List Int)) → List Int → Int → List (List (List Int)) → List (List (List Int)) → Option (Bool)
 | 0, _, _, _, _, _, _, _, _, _, _ => none
 | k + 1, x38, x39, x396000, x396001, x396002, x396003, x397000, x397001, x397002, x397003 => if x39 < x38 then (if 0 ≤ x39 then (if x39 < (x396000.length : Int) then (if x39 < (x397000.length : Int) then (if (rd x396000 x39) = (rd x397000 x39) then (tillerref11_Same.l0 k x38 (wrap64 (x39 + 1)) x396000 x396001 x396002 x396003 x397000 x397001 x397002 x397003) else (some false)) else (none)) else (none)) else (none)) else (some true)
end
def tillerref11_Same.f (k : Nat) (l0_0 : List Int) (a0_1 : Int) (l0_2 : List (List (List Int))) (l0_3 : List (List (List Int))) (l1_0 : List Int) (a1_1 : Int) (l1_2 : List (List (List Int))) (l1_3 : List (List (List Int))) : Option (Bool) := if a0_1 = a1_1 then (if (l0_0.length : Int) = (l1_0.length : Int) then ((tillerref08_Same.f k l0_2 l1_2).bind fun t397 => (if t397 = true then ((tillerref08_Same.f k l0_3 l1_3).bind fun t398 => (tillerref11_Same.j0 k (!t398) l0_0 a0_1 l0_2 l0_3 l1_0 a1_1 l1_2 l1_3)) else (tillerref11_Same.j0 k true l0_0 a0_1 l0_2 l0_3 l1_0 a1_1 l1_2 l1_3))) else (tillerref11_Same.j0 k true l0_0 a0_1 l0_2 l0_3 l1_0 a1_1 l1_2 l1_3)) else (tillerref11_Same.j0 k true l0_0 a0_1 l0_2 l0_3 l1_0 a1_1 l1_2 l1_3)
theorem tillerref11_Same.mono_l : ∀ k, (∀ y0 y1 y2 y3 y4 y5 y6 y7 y8, LeO (tillerref11_Same.j0 k y0 y1 y2 y3 y4 y5 y6 y7 y8) (tillerref11_Same.j0 (k + 1) y0 y1 y2 y3 y4 y5 y6 y7 y8)) ∧ (∀ y0 y1 y2 y3 y4 y5 y6 y7 y8 y9, LeO (tillerref11_Same.l0 k y0 y1 y2 y3 y4 y5 y6 y7 y8 y9) (tillerref11_Same.l0 (k + 1) y0 y1 y2 y3 y4 y5 y6 y7 y8 y9))
 | 0 => ⟨fun _ _ _ _ _ _ _ _ _ r h => by simp [tillerref11_Same.j0] at h, fun _ _ _ _ _ _ _ _ _ _ r h => by simp [tillerref11_Same.l0] at h⟩
 | k + 1 => by
  obtain ⟨ih0, ih1⟩ := tillerref11_Same.mono_l k
  refine ⟨?_, ?_⟩
  ·intro y0 y1 y2 y3 y4 y5 y6 y7 y8
   unfold tillerref11_Same.j0
   repeat' first
   | (with_reducible exact ih0 _ _ _ _ _ _ _ _ _)
   | (with_reducible exact ih1 _ _ _ _ _ _ _ _ _ _)
   | (with_reducible exact tillerref08_Same.mono _ _ _)
   | (with_reducible exact LeO.refl _)
   | (with_reducible exact LeO.none _)
   | (with_reducible refine LeO.ite ?_ ?_)
   | (with_reducible refine LeO.bind ?_ (fun _ => ?_))
   | exact ih0 _ _ _ _ _ _ _ _ _
   | exact ih1 _ _ _ _ _ _ _ _ _ _
   | exact tillerref08_Same.mono _ _ _
   | exact LeO.none _
   | refine LeO.ite ?_ ?_
   | refine LeO.bind ?_ (fun _ => ?_)
  ·intro y0 y1 y2 y3 y4 y5 y6 y7 y8 y9
   unfold tillerref11_Same.l0
   repeat' first
   | (with_reducible exact ih0 _ _ _ _ _ _ _ _ _)
   | (with_reducible exact ih1 _ _ _ _ _ _ _ _ _ _)
   | (with_reducible exact tillerref08_Same.mono _ _ _)
   | (with_reducible exact LeO.refl _)
   | (with_reducible exact LeO.none _)
   | (with_reducible refine LeO.ite ?_ ?_)
   | (with_reducible refine LeO.bind ?_ (fun _ => ?_))
   | exact ih0 _ _ _ _ _ _ _ _ _
   | exact ih1 _ _ _ _ _ _ _ _ _ _
   | exact tillerref08_Same.mono _ _ _
   | exact LeO.none _
   | refine LeO.ite ?_ ?_
   | refine LeO.bind ?_ (fun _ => ?_)
theorem tillerref11_Same.mono : ∀ a0 a1 a2 a3 a4 a5 a6 a7 k, LeO (tillerref11_Same.f k a0 a1 a2 a3 a4 a5 a6 a7) (tillerref11_Same.f (k + 1) a0 a1 a2 a3 a4 a5 a6 a7) := by
 intro a0 a1 a2 a3 a4 a5 a6 a7 k
 obtain ⟨ih0, ih1⟩ := tillerref11_Same.mono_l k
 unfold tillerref11_Same.f
 repeat' first
   | (with_reducible exact ih0 _ _ _ _ _ _ _ _ _)
   | (with_reducible exact ih1 _ _ _ _ _ _ _ _ _ _)
   | (with_reducible exact tillerref08_Same.mono _ _ _)
   | (with_reducible exact LeO.refl _)
   | (with_reducible exact LeO.none _)
   | (with_reducible refine LeO.ite ?_ ?_)
   | (with_reducible refine LeO.bind ?_ (fun _ => ?_))
   | exact ih0 _ _ _ _ _ _ _ _ _
   | exact ih1 _ _ _ _ _ _ _ _ _ _
   | exact tillerref08_Same.mono _ _ _
   | exact LeO.none _
   | refine LeO.ite ?_ ?_
   | refine LeO.bind ?_ (fun _ => ?_)
set_option maxHeartbeats 8000000 in
set_option maxRecDepth 100000 in
theorem tillerref11_Same.calls (k : Nat) (A0_0 : Option Addr) (c0_0 : Nat) (l0_0 : List Int) (a0_1 : Int) (A0_2 : Option Addr) (c0_2 : Nat) (l0_2 : List (List (List Int))) (A0_3 : Option Addr) (c0_3 : Nat) (l0_3 : List (List (List Int))) (A1_0 : Option Addr) (c1_0 : Nat) (l1_0 : List Int) (a1_1 : Int) (A1_2 : Option Addr) (c1_2 : Nat) (l1_2 : List (List (List Int))) (A1_3 : Option Addr) (c1_3 : Nat) (l1_3 : List (List (List Int))) (r : Bool) (w : World) (hr0_0 : Kd.C (Kd.int .i64) w A0_0 l0_0.length l0_0) (hc0_0 : l0_0.length ≤ c0_0) (hr0_2 : Kd.C (Kd.slice 61 (Kd.slice 72 (Kd.int .i32))) w A0_2 l0_2.length l0_2) (hc0_2 : l0_2.length ≤ c0_2) (hr0_3 : Kd.C (Kd.slice 61 (Kd.slice 72 (Kd.int .i32))) w A0_3 l0_3.length l0_3) (hc0_3 : l0_3.length ≤ c0_3) (hr1_0 : Kd.C (Kd.int .i64) w A1_0 l1_0.length l1_0) (hc1_0 : l1_0.length ≤ c1_0) (hr1_2 : Kd.C (Kd.slice 61 (Kd.slice 72 (Kd.int .i32))) w A1_2 l1_2.length l1_2) (hc1_2 : l1_2.length ≤ c1_2) (hr1_3 : Kd.C (Kd.slice 61 (Kd.slice 72 (Kd.int .i32))) w A1_3 l1_3.length l1_3) (hc1_3 : l1_3.length ≤ c1_3) (h : tillerref11_Same.f k l0_0 a0_1 l0_2 l0_3 l1_0 a1_1 l1_2 l1_3 = some r) :
  Calls Try.prog 18 #[.agg #[.slice A0_0 l0_0.length c0_0, .int .i64 a0_1, .slice A0_2 l0_2.length c0_2, .slice A0_3 l0_3.length c0_3], .agg #[.slice A1_0 l1_0.length c1_0, .int .i64 a1_1, .slice A1_2 l1_2.length c1_2, .slice A1_3 l1_3.length c1_3]] w fun e w' => e = .returned (.bool r) ∧ Below w.heap.size w w' := by
 have hu31 := Try.underlying31
 have HR0_0 := Aside0.mk hr0_0
 have HC0_0 := Aside0.mk hc0_0
 clear hr0_0 hc0_0
 have HR0_2 := Aside0.mk hr0_2
 have HC0_2 := Aside0.mk hc0_2
 clear hr0_2 hc0_2
 have HR0_3 := Aside0.mk hr0_3
 have HC0_3 := Aside0.mk hc0_3
 clear hr0_3 hc0_3
 have HR1_0 := Aside0.mk hr1_0
 have HC1_0 := Aside0.mk hc1_0
 clear hr1_0 hc1_0
 have HR1_2 := Aside0.mk hr1_2
 have HC1_2 := Aside0.mk hc1_2
 clear hr1_2 hc1_2
 have HR1_3 := Aside0.mk hr1_3
 have HC1_3 := Aside0.mk hc1_3
 clear hr1_3 hc1_3
 have HB := Aside0.mk (Below.refl w.heap.size w)
 have H : (if a0_1 = a1_1 then (if (l0_0.length : Int) = (l1_0.length : Int) then ((tillerref08_Same.f k l0_2 l1_2).bind fun t397 => (if t397 = true then ((tillerref08_Same.f k l0_3 l1_3).bind fun t398 => (tillerref11_Same.j0 k (!t398) l0_0 a0_1 l0_2 l0_3 l1_0 a1_1 l1_2 l1_3)) else (tillerref11_Same.j0 k true l0_0 a0_1 l0_2 l0_3 l1_0 a1_1 l1_2 l1_3))) else (tillerref11_Same.j0 k true l0_0 a0_1 l0_2 l0_3 l1_0 a1_1 l1_2 l1_3)) else (tillerref11_Same.j0 k true l0_0 a0_1 l0_2 l0_3 l1_0 a1_1 l1_2 l1_3)) = some r := h
 clear h
 have HC3 := Aside0.mk H
 clear H
 go_enter Try.func18, Try.ntmps18
 go_upto_region 1 with (first | ((with_reducible refine gate_dst (N := 2) rfl ?_); (try (refine gate_guard (by rfl) ?_; dsimp only)); refine bxe (N := 2) (cs := #[.slice A0_0 l0_0.length c0_0, .int .i64 a0_1, .slice A0_2 l0_2.length c0_2, .slice A0_3 l0_3.length c0_3]) (t := 31) ?_; intro gb395 hg w4 hbox hb; have n0_ := Aside0.mk (below_step bel hb); have n1_ := Aside0.mk (hbox); have n2_ := Aside0.mk ((bsz hg : w.heap.size ≤ gb395)); have n3_ := Aside0.mk ((bsz hg : w.heap.size ≤ gb395)); clear HB; have HB := n0_; have BK395 := n1_; have GW395 := n2_; have GE395 := n3_; clear n0_ n1_ n2_ n3_; clear hb hbox hg) | ((with_reducible refine gate_dst (N := 3) rfl ?_); (try (refine gate_guard (by rfl) ?_; dsimp only)); refine bxe (N := 3) (cs := #[.slice A1_0 l1_0.length c1_0, .int .i64 a1_1, .slice A1_2 l1_2.length c1_2, .slice A1_3 l1_3.length c1_3]) (t := 31) ?_; intro gb396 hg w5 hbox hb; have n0_ := Aside0.mk (bkb BK395.out hb); have n1_ := Aside0.mk (below_step bel hb); have n2_ := Aside0.mk (hbox); have n3_ := Aside0.mk ((bsz hg : w.heap.size ≤ gb396)); have n4_ := Aside0.mk ((bsz hg : w.heap.size ≤ gb396)); have n5_ := Aside0.mk ((nel BK395.out hg : gb395 ≠ gb396)); have n6_ := Aside0.mk ((neg_ BK395.out hg : gb396 ≠ gb395)); clear BK395; clear HB; have BK395 := n0_; have HB := n1_; have BK396 := n2_; have GW396 := n3_; have GE396 := n4_; have NB395_396 := n5_; have NB396_395 := n6_; clear n0_ n1_ n2_ n3_ n4_ n5_ n6_; clear hb hbox hg))
 repeat (go_quiet (first | ((with_reducible refine gate_dst (N := 2) rfl ?_); (try (refine gate_guard (by rfl) ?_; dsimp only)); refine bxe (N := 2) (cs := #[.slice A0_0 l0_0.length c0_0, .int .i64 a0_1, .slice A0_2 l0_2.length c0_2, .slice A0_3 l0_3.length c0_3]) (t := 31) ?_; intro gb395 hg w4 hbox hb; have n0_ := Aside0.mk (below_step bel hb); have n1_ := Aside0.mk (hbox); have n2_ := Aside0.mk ((bsz hg : w.heap.size ≤ gb395)); have n3_ := Aside0.mk ((bsz hg : w.heap.size ≤ gb395)); clear HB; have HB := n0_; have BK395 := n1_; have GW395 := n2_; have GE395 := n3_; clear n0_ n1_ n2_ n3_; clear hb hbox hg) | ((with_reducible refine gate_dst (N := 3) rfl ?_); (try (refine gate_guard (by rfl) ?_; dsimp only)); refine bxe (N := 3) (cs := #[.slice A1_0 l1_0.length c1_0, .int .i64 a1_1, .slice A1_2 l1_2.length c1_2, .slice A1_3 l1_3.length c1_3]) (t := 31) ?_; intro gb396 hg w5 hbox hb; have n0_ := Aside0.mk (bkb BK395.out hb); have n1_ := Aside0.mk (below_step bel hb); have n2_ := Aside0.mk (hbox); have n3_ := Aside0.mk ((bsz hg : w.heap.size ≤ gb396)); have n4_ := Aside0.mk ((bsz hg : w.heap.size ≤ gb396)); have n5_ := Aside0.mk ((nel BK395.out hg : gb395 ≠ gb396)); have n6_ := Aside0.mk ((neg_ BK395.out hg : gb396 ≠ gb395)); clear BK395; clear HB; have BK395 := n0_; have HB := n1_; have BK396 := n2_; have GW396 := n3_; have GE396 := n4_; have NB395_396 := n5_; have NB396_395 := n6_; clear n0_ n1_ n2_ n3_ n4_ n5_ n6_; clear hb hbox hg)); go_upto_region 1 with (first | ((with_reducible refine gate_dst (N := 2) rfl ?_); (try (refine gate_guard (by rfl) ?_; dsimp only)); refine bxe (N := 2) (cs := #[.slice A0_0 l0_0.length c0_0, .int .i64 a0_1, .slice A0_2 l0_2.length c0_2, .slice A0_3 l0_3.length c0_3]) (t := 31) ?_; intro gb395 hg w4 hbox hb; have n0_ := Aside0.mk (below_step bel hb); have n1_ := Aside0.mk (hbox); have n2_ := Aside0.mk ((bsz hg : w.heap.size ≤ gb395)); have n3_ := Aside0.mk ((bsz hg : w.heap.size ≤ gb395)); clear HB; have HB := n0_; have BK395 := n1_; have GW395 := n2_; have GE395 := n3_; clear n0_ n1_ n2_ n3_; clear hb hbox hg) | ((with_reducible refine gate_dst (N := 3) rfl ?_); (try (refine gate_guard (by rfl) ?_; dsimp only)); refine bxe (N := 3) (cs := #[.slice A1_0 l1_0.length c1_0, .int .i64 a1_1, .slice A1_2 l1_2.length c1_2, .slice A1_3 l1_3.length c1_3]) (t := 31) ?_; intro gb396 hg w5 hbox hb; have n0_ := Aside0.mk (bkb BK395.out hb); have n1_ := Aside0.mk (below_step bel hb); have n2_ := Aside0.mk (hbox); have n3_ := Aside0.mk ((bsz hg : w.heap.size ≤ gb396)); have n4_ := Aside0.mk ((bsz hg : w.heap.size ≤ gb396)); have n5_ := Aside0.mk ((nel BK395.out hg : gb395 ≠ gb396)); have n6_ := Aside0.mk ((neg_ BK395.out hg : gb396 ≠ gb395)); clear BK395; clear HB; have BK395 := n0_; have HB := n1_; have BK396 := n2_; have GW396 := n3_; have GE396 := n4_; have NB395_396 := n5_; have NB396_395 := n6_; clear n0_ n1_ n2_ n3_ n4_ n5_ n6_; clear hb hbox hg)))
 (try simp only [Act.put, List.setIfInBounds_toArray, List.set_cons_zero, List.set_cons_succ])
 go_cut [35] (fun v35 wc => ∃ (kq : Nat) (x35_2 : Bool), v35 = .bool x35_2 ∧ Aside0 (tillerref11_Same.j0 kq x35_2 l0_0 a0_1 l0_2 l0_3 l1_0 a1_1 l1_2 l1_3 = some r) ∧ Aside0 (kq ≤ k) ∧ Aside0 (wc.heap[gb395]? = some (.cells #[(.slice A0_0 l0_0.length c0_0), .int .i64 a0_1, (.slice A0_2 l0_2.length c0_2), (.slice A0_3 l0_3.length c0_3)] 31 (0, 0))) ∧ Aside0 (wc.heap[gb396]? = some (.cells #[(.slice A1_0 l1_0.length c1_0), .int .i64 a1_1, (.slice A1_2 l1_2.length c1_2), (.slice A1_3 l1_3.length c1_3)] 31 (0, 0))) ∧ Aside0 (Below w.heap.size w wc))
 case first =>
  have H := HC3.out
  clear HC3
  by_cases c6 : a0_1 = a1_1
  ·rw [if_pos c6] at H
   have c6b0 : (a0_1 == a1_1) = true := beq_iff_eq.mpr c6
   have c6b1 : (a0_1 != a1_1) = false := bne_eq_false_iff_eq.mpr c6
   clear c6
   (first | rw [c6b0] | (simp only [i64_w, i32_w]; rw [c6b0]) | skip)
   by_cases c7 : (l0_0.length : Int) = (l1_0.length : Int)
   ·rw [if_pos c7] at H
    have c7b0 : ((l0_0.length : Int) == (l1_0.length : Int)) = true := beq_iff_eq.mpr c7
    have c7b1 : ((l0_0.length : Int) != (l1_0.length : Int)) = false := bne_eq_false_iff_eq.mpr c7
    have c7b2 : (l0_0.length == l1_0.length) = true := by first | simpa using c7 | (simp at c7 ⊢; omega)
    clear c7
    replace H := Option.bind_eq_some_iff.mp H
    obtain ⟨t397, A80, H⟩ := H
    replace H : (if t397 = true then ((tillerref08_Same.f k l0_3 l1_3).bind fun t398 => (tillerref11_Same.j0 k (!t398) l0_0 a0_1 l0_2 l0_3 l1_0 a1_1 l1_2 l1_3)) else (tillerref11_Same.j0 k true l0_0 a0_1 l0_2 l0_3 l1_0 a1_1 l1_2 l1_3)) = some r := H
    have A8 := Aside0.mk A80
    clear A80
    by_cases c9 : t397 = true
    ·subst c9
     have H1 : ((tillerref08_Same.f k l0_3 l1_3).bind fun t398 => (tillerref11_Same.j0 k (!t398) l0_0 a0_1 l0_2 l0_3 l1_0 a1_1 l1_2 l1_3)) = some r := by rw [if_pos rfl] at H; exact H
     clear H
     have H := H1
     clear H1
     replace H := Option.bind_eq_some_iff.mp H
     obtain ⟨t398, A100, H⟩ := H
     replace H : (tillerref11_Same.j0 k (!t398) l0_0 a0_1 l0_2 l0_3 l1_0 a1_1 l1_2 l1_3) = some r := H
     have A10 := Aside0.mk A100
     clear A100
     have H' := Aside0.mk H
     clear H
     have hnb11 := NB395_396.out
     have hnc11 := NB396_395.out
     obtain ⟨hcz12_0, hcz12_1, hcz12_2, hcz12_3, hfz12_0, hfz12_1, hfz12_2, hfz12_3⟩ := cq4 BK395.out
     obtain ⟨hcz13_0, hcz13_1, hcz13_2, hcz13_3, hfz13_0, hfz13_1, hfz13_2, hfz13_3⟩ := cq4 BK396.out
     go_wp2_with (first | (go_at_call 45; (with_reducible refine (tillerref08_Same.calls k _ _ l0_2 _ _ l1_2 true _ ?side1 ?side2 ?side3 ?side4 A8.out).mono ?_); (case side1 => repeat (first | exact (Kd.C_below HR0_2.out HB.out) | (with_reducible refine Kd.C_alloc ?_ _) | (with_reducible refine Kd.C_drewN ?_ _) | (with_reducible refine Kd.C_drew ?_))); (case side2 => exact HC0_2.out); (case side3 => repeat (first | exact (Kd.C_below HR1_2.out HB.out) | (with_reducible refine Kd.C_alloc ?_ _) | (with_reducible refine Kd.C_drewN ?_ _) | (with_reducible refine Kd.C_drew ?_))); (case side4 => exact HC1_2.out); rintro e w' ⟨rfl, ⟨nd, rfl⟩⟩; (try first | exact ⟨rfl, _, World.drewN_drewN _ _ _⟩ | exact ⟨rfl, _, Eq.trans (World.drewN_drewN _ _ _) (congrArg (World.drewN _) (Nat.add_assoc _ _ _))⟩)) | (go_at_call 45; (with_reducible refine (tillerref08_Same.calls k _ _ l0_3 _ _ l1_3 t398 _ ?side1 ?side2 ?side3 ?side4 A10.out).mono ?_); (case side1 => repeat (first | exact (Kd.C_below HR0_3.out bel) | (with_reducible refine Kd.C_alloc ?_ _) | (with_reducible refine Kd.C_drewN ?_ _) | (with_reducible refine Kd.C_drew ?_))); (case side2 => exact HC0_3.out); (case side3 => repeat (first | exact (Kd.C_below HR1_3.out bel) | (with_reducible refine Kd.C_alloc ?_ _) | (with_reducible refine Kd.C_drewN ?_ _) | (with_reducible refine Kd.C_drew ?_))); (case side4 => exact HC1_3.out); rintro e w' ⟨rfl, ⟨nd, rfl⟩⟩; (try first | exact ⟨rfl, _, World.drewN_drewN _ _ _⟩ | exact ⟨rfl, _, Eq.trans (World.drewN_drewN _ _ _) (congrArg (World.drewN _) (Nat.add_assoc _ _ _))⟩)))
     repeat (go_quiet (first | (go_at_call 45; (with_reducible refine (tillerref08_Same.calls k _ _ l0_2 _ _ l1_2 true _ ?side1 ?side2 ?side3 ?side4 A8.out).mono ?_); (case side1 => repeat (first | exact (Kd.C_below HR0_2.out HB.out) | (with_reducible refine Kd.C_alloc ?_ _) | (with_reducible refine Kd.C_drewN ?_ _) | (with_reducible refine Kd.C_drew ?_))); (case side2 => exact HC0_2.out); (case side3 => repeat (first | exact (Kd.C_below HR1_2.out HB.out) | (with_reducible refine Kd.C_alloc ?_ _) | (with_reducible refine Kd.C_drewN ?_ _) | (with_reducible refine Kd.C_drew ?_))); (case side4 => exact HC1_2.out); rintro e w' ⟨rfl, ⟨nd, rfl⟩⟩; (try first | exact ⟨rfl, _, World.drewN_drewN _ _ _⟩ | exact ⟨rfl, _, Eq.trans (World.drewN_drewN _ _ _) (congrArg (World.drewN _) (Nat.add_assoc _ _ _))⟩)) | (go_at_call 45; (with_reducible refine (tillerref08_Same.calls k _ _ l0_3 _ _ l1_3 t398 _ ?side1 ?side2 ?side3 ?side4 A10.out).mono ?_); (case side1 => repeat (first | exact (Kd.C_below HR0_3.out bel) | (with_reducible refine Kd.C_alloc ?_ _) | (with_reducible refine Kd.C_drewN ?_ _) | (with_reducible refine Kd.C_drew ?_))); (case side2 => exact HC0_3.out); (case side3 => repeat (first | exact (Kd.C_below HR1_3.out bel) | (with_reducible refine Kd.C_alloc ?_ _) | (with_reducible refine Kd.C_drewN ?_ _) | (with_reducible refine Kd.C_drew ?_))); (case side4 => exact HC1_3.out); rintro e w' ⟨rfl, ⟨nd, rfl⟩⟩; (try first | exact ⟨rfl, _, World.drewN_drewN _ _ _⟩ | exact ⟨rfl, _, Eq.trans (World.drewN_drewN _ _ _) (congrArg (World.drewN _) (Nat.add_assoc _ _ _))⟩))); try go_wp2_with (first | (go_at_call 45; (with_reducible refine (tillerref08_Same.calls k _ _ l0_2 _ _ l1_2 true _ ?side1 ?side2 ?side3 ?side4 A8.out).mono ?_); (case side1 => repeat (first | exact (Kd.C_below HR0_2.out HB.out) | (with_reducible refine Kd.C_alloc ?_ _) | (with_reducible refine Kd.C_drewN ?_ _) | (with_reducible refine Kd.C_drew ?_))); (case side2 => exact HC0_2.out); (case side3 => repeat (first | exact (Kd.C_below HR1_2.out HB.out) | (with_reducible refine Kd.C_alloc ?_ _) | (with_reducible refine Kd.C_drewN ?_ _) | (with_reducible refine Kd.C_drew ?_))); (case side4 => exact HC1_2.out); rintro e w' ⟨rfl, ⟨nd, rfl⟩⟩; (try first | exact ⟨rfl, _, World.drewN_drewN _ _ _⟩ | exact ⟨rfl, _, Eq.trans (World.drewN_drewN _ _ _) (congrArg (World.drewN _) (Nat.add_assoc _ _ _))⟩)) | (go_at_call 45; (with_reducible refine (tillerref08_Same.calls k _ _ l0_3 _ _ l1_3 t398 _ ?side1 ?side2 ?side3 ?side4 A10.out).mono ?_); (case side1 => repeat (first | exact (Kd.C_below HR0_3.out bel) | (with_reducible refine Kd.C_alloc ?_ _) | (with_reducible refine Kd.C_drewN ?_ _) | (with_reducible refine Kd.C_drew ?_))); (case side2 => exact HC0_3.out); (case side3 => repeat (first | exact (Kd.C_below HR1_3.out bel) | (with_reducible refine Kd.C_alloc ?_ _) | (with_reducible refine Kd.C_drewN ?_ _) | (with_reducible refine Kd.C_drew ?_))); (case side4 => exact HC1_3.out); rintro e w' ⟨rfl, ⟨nd, rfl⟩⟩; (try first | exact ⟨rfl, _, World.drewN_drewN _ _ _⟩ | exact ⟨rfl, _, Eq.trans (World.drewN_drewN _ _ _) (congrArg (World.drewN _) (Nat.add_assoc _ _ _))⟩))))
     go_meet
     case rel => exact ⟨_, (!t398), rs, H', ⟨by first | omega | exact Nat.le_refl _⟩, ⟨by (with_reducible repeat (first | refine blk_drewN ?_ _ | refine blk_drew ?_ | refine blk_alloc ?_ _)); exact BK395.out⟩, ⟨by (with_reducible repeat (first | refine blk_drewN ?_ _ | refine blk_drew ?_ | refine blk_alloc ?_ _)); exact BK396.out⟩, ⟨by repeat (first | (with_reducible first | exact HB.out | apply below_alloc | apply pw_below_drewN | apply below_drew1 | refine below_set ?_ GE395.out | refine below_set ?_ GE396.out) | exact HB.out)⟩⟩
    ·replace c9 := Bool.eq_false_iff.mpr c9
     subst c9
     have H1 : (tillerref11_Same.j0 k true l0_0 a0_1 l0_2 l0_3 l1_0 a1_1 l1_2 l1_3) = some r := by rw [if_neg (show ¬ (false = true) by decide)] at H; exact H
     clear H
     have H := H1
     clear H1
     have H' := Aside0.mk H
     clear H
     have hnb14 := NB395_396.out
     have hnc14 := NB396_395.out
     obtain ⟨hcz15_0, hcz15_1, hcz15_2, hcz15_3, hfz15_0, hfz15_1, hfz15_2, hfz15_3⟩ := cq4 BK395.out
     obtain ⟨hcz16_0, hcz16_1, hcz16_2, hcz16_3, hfz16_0, hfz16_1, hfz16_2, hfz16_3⟩ := cq4 BK396.out
     go_wp2_with (first | (go_at_call 45; (with_reducible refine (tillerref08_Same.calls k _ _ l0_2 _ _ l1_2 false _ ?side1 ?side2 ?side3 ?side4 A8.out).mono ?_); (case side1 => repeat (first | exact (Kd.C_below HR0_2.out HB.out) | (with_reducible refine Kd.C_alloc ?_ _) | (with_reducible refine Kd.C_drewN ?_ _) | (with_reducible refine Kd.C_drew ?_))); (case side2 => exact HC0_2.out); (case side3 => repeat (first | exact (Kd.C_below HR1_2.out HB.out) | (with_reducible refine Kd.C_alloc ?_ _) | (with_reducible refine Kd.C_drewN ?_ _) | (with_reducible refine Kd.C_drew ?_))); (case side4 => exact HC1_2.out); rintro e w' ⟨rfl, ⟨nd, rfl⟩⟩; (try first | exact ⟨rfl, _, World.drewN_drewN _ _ _⟩ | exact ⟨rfl, _, Eq.trans (World.drewN_drewN _ _ _) (congrArg (World.drewN _) (Nat.add_assoc _ _ _))⟩)))
     repeat (go_quiet (first | (go_at_call 45; (with_reducible refine (tillerref08_Same.calls k _ _ l0_2 _ _ l1_2 false _ ?side1 ?side2 ?side3 ?side4 A8.out).mono ?_); (case side1 => repeat (first | exact (Kd.C_below HR0_2.out HB.out) | (with_reducible refine Kd.C_alloc ?_ _) | (with_reducible refine Kd.C_drewN ?_ _) | (with_reducible refine Kd.C_drew ?_))); (case side2 => exact HC0_2.out); (case side3 => repeat (first | exact (Kd.C_below HR1_2.out HB.out) | (with_reducible refine Kd.C_alloc ?_ _) | (with_reducible refine Kd.C_drewN ?_ _) | (with_reducible refine Kd.C_drew ?_))); (case side4 => exact HC1_2.out); rintro e w' ⟨rfl, ⟨nd, rfl⟩⟩; (try first | exact ⟨rfl, _, World.drewN_drewN _ _ _⟩ | exact ⟨rfl, _, Eq.trans (World.drewN_drewN _ _ _) (congrArg (World.drewN _) (Nat.add_assoc _ _ _))⟩))); try go_wp2_with (first | (go_at_call 45; (with_reducible refine (tillerref08_Same.calls k _ _ l0_2 _ _ l1_2 false _ ?side1 ?side2 ?side3 ?side4 A8.out).mono ?_); (case side1 => repeat (first | exact (Kd.C_below HR0_2.out HB.out) | (with_reducible refine Kd.C_alloc ?_ _) | (with_reducible refine Kd.C_drewN ?_ _) | (with_reducible refine Kd.C_drew ?_))); (case side2 => exact HC0_2.out); (case side3 => repeat (first | exact (Kd.C_below HR1_2.out HB.out) | (with_reducible refine Kd.C_alloc ?_ _) | (with_reducible refine Kd.C_drewN ?_ _) | (with_reducible refine Kd.C_drew ?_))); (case side4 => exact HC1_2.out); rintro e w' ⟨rfl, ⟨nd, rfl⟩⟩; (try first | exact ⟨rfl, _, World.drewN_drewN _ _ _⟩ | exact ⟨rfl, _, Eq.trans (World.drewN_drewN _ _ _) (congrArg (World.drewN _) (Nat.add_assoc _ _ _))⟩))))
     go_meet
     case rel => exact ⟨_, (true), rs, H', ⟨by first | omega | exact Nat.le_refl _⟩, ⟨by (with_reducible repeat (first | refine blk_drewN ?_ _ | refine blk_drew ?_ | refine blk_alloc ?_ _)); exact BK395.out⟩, ⟨by (with_reducible repeat (first | refine blk_drewN ?_ _ | refine blk_drew ?_ | refine blk_alloc ?_ _)); exact BK396.out⟩, ⟨by repeat (first | (with_reducible first | exact HB.out | apply below_alloc | apply pw_below_drewN | apply below_drew1 | refine below_set ?_ GE395.out | refine below_set ?_ GE396.out) | exact HB.out)⟩⟩
   ·rw [if_neg c7] at H
    have c7b0 : ((l0_0.length : Int) == (l1_0.length : Int)) = false := beq_eq_false_iff_ne.mpr c7
    have c7b1 : ((l0_0.length : Int) != (l1_0.length : Int)) = true := bne_iff_ne.mpr c7
    have c7b2 : (l0_0.length == l1_0.length) = false := by first | simpa using c7 | (simp at c7 ⊢; omega)
    have H' := Aside0.mk H
    clear H
    have hnb17 := NB395_396.out
    have hnc17 := NB396_395.out
    obtain ⟨hcz18_0, hcz18_1, hcz18_2, hcz18_3, hfz18_0, hfz18_1, hfz18_2, hfz18_3⟩ := cq4 BK395.out
    obtain ⟨hcz19_0, hcz19_1, hcz19_2, hcz19_3, hfz19_0, hfz19_1, hfz19_2, hfz19_3⟩ := cq4 BK396.out
    go_wp2
    repeat (go_quiet (fail); try go_wp2)
    go_meet
    case rel => exact ⟨_, (true), rs, H', ⟨by first | omega | exact Nat.le_refl _⟩, ⟨by (with_reducible repeat (first | refine blk_drewN ?_ _ | refine blk_drew ?_ | refine blk_alloc ?_ _)); exact BK395.out⟩, ⟨by (with_reducible repeat (first | refine blk_drewN ?_ _ | refine blk_drew ?_ | refine blk_alloc ?_ _)); exact BK396.out⟩, ⟨by repeat (first | (with_reducible first | exact HB.out | apply below_alloc | apply pw_below_drewN | apply below_drew1 | refine below_set ?_ GE395.out | refine below_set ?_ GE396.out) | exact HB.out)⟩⟩
  ·rw [if_neg c6] at H
   have c6b0 : (a0_1 == a1_1) = false := beq_eq_false_iff_ne.mpr c6
   have c6b1 : (a0_1 != a1_1) = true := bne_iff_ne.mpr c6
   (first | rw [c6b0] | (simp only [i64_w, i32_w]; rw [c6b0]) | skip)
   have H' := Aside0.mk H
   clear H
   have hnb20 := NB395_396.out
   have hnc20 := NB396_395.out
   obtain ⟨hcz21_0, hcz21_1, hcz21_2, hcz21_3, hfz21_0, hfz21_1, hfz21_2, hfz21_3⟩ := cq4 BK395.out
   obtain ⟨hcz22_0, hcz22_1, hcz22_2, hcz22_3, hfz22_0, hfz22_1, hfz22_2, hfz22_3⟩ := cq4 BK396.out
   go_wp2
   repeat (go_quiet (fail); try go_wp2)
   go_meet
   case rel => exact ⟨_, (true), rs, H', ⟨by first | omega | exact Nat.le_refl _⟩, ⟨by (with_reducible repeat (first | refine blk_drewN ?_ _ | refine blk_drew ?_ | refine blk_alloc ?_ _)); exact BK395.out⟩, ⟨by (with_reducible repeat (first | refine blk_drewN ?_ _ | refine blk_drew ?_ | refine blk_alloc ?_ _)); exact BK396.out⟩, ⟨by repeat (first | (with_reducible first | exact HB.out | apply below_alloc | apply pw_below_drewN | apply below_drew1 | refine below_set ?_ GE395.out | refine below_set ?_ GE396.out) | exact HB.out)⟩⟩
 case rest =>
  clear HC3
  try clear c1
  try clear c2
  try clear p2
  try clear c6
  try clear c6b0
  try clear c6b1
  try clear c7
  try clear c7b0
  try clear c7b1
  try clear c7b2
  try clear c9
  try clear c11
  try clear c14
  try clear c17
  try clear c18
  try clear c20
  try clear hcz12_0
  try clear hcz12_1
  try clear hcz12_2
  try clear hcz12_3
  try clear hcz13_0
  try clear hcz13_1
  try clear hcz13_2
  try clear hcz13_3
  try clear hcz15_0
  try clear hcz15_1
  try clear hcz15_2
  try clear hcz15_3
  try clear hcz16_0
  try clear hcz16_1
  try clear hcz16_2
  try clear hcz16_3
  try clear hcz18_0
  try clear hcz18_1
  try clear hcz18_2
  try clear hcz18_3
  try clear hcz19_0
  try clear hcz19_1
  try clear hcz19_2
  try clear hcz19_3
  try clear hcz21_0
  try clear hcz21_1
  try clear hcz21_2
  try clear hcz21_3
  try clear hcz22_0
  try clear hcz22_1
  try clear hcz22_2
  try clear hcz22_3
  try clear hfz12_0
  try clear hfz12_1
  try clear hfz12_2
  try clear hfz12_3
  try clear hfz13_0
  try clear hfz13_1
  try clear hfz13_2
  try clear hfz13_3
  try clear hfz15_0
  try clear hfz15_1
  try clear hfz15_2
  try clear hfz15_3
  try clear hfz16_0
  try clear hfz16_1
  try clear hfz16_2
  try clear hfz16_3
  try clear hfz18_0
  try clear hfz18_1
  try clear hfz18_2
  try clear hfz18_3
  try clear hfz19_0
  try clear hfz19_1
  try clear hfz19_2
  try clear hfz19_3
  try clear hfz21_0
  try clear hfz21_1
  try clear hfz21_2
  try clear hfz21_3
  try clear hfz22_0
  try clear hfz22_1
  try clear hfz22_2
  try clear hfz22_3
  obtain ⟨kq, x35_2, rfl, HA, HJ2, BK395, BK396, HB⟩ := hcut
  cases kq with
  | zero => exact absurd HA.out (by simp [tillerref11_Same.j0])
  | succ kj2 =>
   have H := HA.out
   clear HA
   simp only [tillerref11_Same.j0] at H
   by_cases c23 : x35_2 = true
   ·subst c23
    have H1 : (some false) = some r := by rw [if_pos rfl] at H; exact H
    clear H
    have H := H1
    clear H1
    obtain rfl := Option.some.inj H
    go_wp2
    repeat (go_quiet (fail); try go_wp2)
    go_ret
    exact ⟨by first | rfl | (simp [errW_none, errW_some] <;> rfl) | (simp [*, errW_none, errW_some] <;> rfl), by repeat (first | (with_reducible first | exact HB.out | apply below_alloc | apply pw_below_drewN | apply below_drew1 | refine below_set ?_ GE395.out | refine below_set ?_ GE396.out) | exact HB.out)⟩
   ·replace c23 := Bool.eq_false_iff.mpr c23
    subst c23
    have H1 : (tillerref11_Same.l0 kj2 (l0_0.length : Int) 0 l0_0 a0_1 l0_2 l0_3 l1_0 a1_1 l1_2 l1_3) = some r := by rw [if_neg (show ¬ (false = true) by decide)] at H; exact H
    clear H
    have H := H1
    clear H1
    have H' := Aside0.mk H
    clear H
    have hnb24 := NB395_396.out
    have hnc24 := NB396_395.out
    obtain ⟨hcz25_0, hcz25_1, hcz25_2, hcz25_3, hfz25_0, hfz25_1, hfz25_2, hfz25_3⟩ := cq4 BK395.out
    go_wp2
    repeat (go_quiet (fail); try go_wp2)
    go_loopg [39] kj2 (fun kq v39 w' => ∃ (x39_2 : Int), v39 = .int .i64 x39_2 ∧ Aside0 (tillerref11_Same.l0 kq (l0_0.length : Int) x39_2 l0_0 a0_1 l0_2 l0_3 l1_0 a1_1 l1_2 l1_3 = some r) ∧ Aside0 (kq ≤ kj2) ∧ Aside0 (w'.heap[gb395]? = some (.cells #[(.slice A0_0 l0_0.length c0_0), .int .i64 a0_1, (.slice A0_2 l0_2.length c0_2), (.slice A0_3 l0_3.length c0_3)] 31 (0, 0))) ∧ Aside0 (w'.heap[gb396]? = some (.cells #[(.slice A1_0 l1_0.length c1_0), .int .i64 a1_1, (.slice A1_2 l1_2.length c1_2), (.slice A1_3 l1_3.length c1_3)] 31 (0, 0))) ∧ Aside0 (Below w.heap.size w w'))
    case atStart => exact ⟨(0), rs, H', ⟨Nat.le_refl _⟩, ⟨by (with_reducible repeat (first | refine blk_drewN ?_ _ | refine blk_drew ?_ | refine blk_alloc ?_ _)); exact BK395.out⟩, ⟨by (with_reducible repeat (first | refine blk_drewN ?_ _ | refine blk_drew ?_ | refine blk_alloc ?_ _)); exact BK396.out⟩, ⟨by repeat (first | (with_reducible first | exact HB.out | apply below_alloc | apply pw_below_drewN | apply below_drew1 | refine below_set ?_ GE395.out | refine below_set ?_ GE396.out) | exact HB.out)⟩⟩
    case round =>
     clear H'
     try clear c1
     try clear c2
     try clear p2
     try clear c6
     try clear c6b0
     try clear c6b1
     try clear c7
     try clear c7b0
     try clear c7b1
     try clear c7b2
     try clear c9
     try clear c11
     try clear c14
     try clear c17
     try clear c18
     try clear c20
     try clear c23
     try clear c24
     try clear hcz12_0
     try clear hcz12_1
     try clear hcz12_2
     try clear hcz12_3
     try clear hcz13_0
     try clear hcz13_1
     try clear hcz13_2
     try clear hcz13_3
     try clear hcz15_0
     try clear hcz15_1
     try clear hcz15_2
     try clear hcz15_3
     try clear hcz16_0
     try clear hcz16_1
     try clear hcz16_2
     try clear hcz16_3
     try clear hcz18_0
     try clear hcz18_1
     try clear hcz18_2
     try clear hcz18_3
     try clear hcz19_0
     try clear hcz19_1
     try clear hcz19_2
     try clear hcz19_3
     try clear hcz21_0
     try clear hcz21_1
     try clear hcz21_2
     try clear hcz21_3
     try clear hcz22_0
     try clear hcz22_1
     try clear hcz22_2
     try clear hcz22_3
     try clear hcz25_0
     try clear hcz25_1
     try clear hcz25_2
     try clear hcz25_3
     try clear hfz12_0
     try clear hfz12_1
     try clear hfz12_2
     try clear hfz12_3
     try clear hfz13_0
     try clear hfz13_1
     try clear hfz13_2
     try clear hfz13_3
     try clear hfz15_0
     try clear hfz15_1
     try clear hfz15_2
     try clear hfz15_3
     try clear hfz16_0
     try clear hfz16_1
     try clear hfz16_2
     try clear hfz16_3
     try clear hfz18_0
     try clear hfz18_1
     try clear hfz18_2
     try clear hfz18_3
     try clear hfz19_0
     try clear hfz19_1
     try clear hfz19_2
     try clear hfz19_3
     try clear hfz21_0
     try clear hfz21_1
     try clear hfz21_2
     try clear hfz21_3
     try clear hfz22_0
     try clear hfz22_1
     try clear hfz22_2
     try clear hfz22_3
     try clear hfz25_0
     try clear hfz25_1
     try clear hfz25_2
     try clear hfz25_3
     try clear p2
     obtain ⟨x39_2, rfl, HA, HK2, BK395, BK396, HB⟩ := hrel
     cases gk with
     | zero => exact absurd HA.out (by simp [tillerref11_Same.l0])
     | succ k2 =>
      have H := HA.out
      clear HA
      simp only [tillerref11_Same.l0] at H
      by_cases c26 : x39_2 < (l0_0.length : Int)
      ·rw [if_pos c26] at H
       have c26b0 : decide (x39_2 < (l0_0.length : Int)) = true := decide_eq_true c26
       clear c26
       by_cases c27 : 0 ≤ x39_2
       ·rw [if_pos c27] at H
        have c27b0 : decide (0 ≤ x39_2) = true := decide_eq_true c27
        clear c27
        by_cases c28 : x39_2 < (l0_0.length : Int)
        ·rw [if_pos c28] at H
         have c28b0 : decide (x39_2 < (l0_0.length : Int)) = true := decide_eq_true c28
         clear c28
         by_cases c29 : x39_2 < (l1_0.length : Int)
         ·rw [if_pos c29] at H
          have c29b0 : decide (x39_2 < (l1_0.length : Int)) = true := decide_eq_true c29
          clear c29
          by_cases c30 : (rd l0_0 x39_2) = (rd l1_0 x39_2)
          ·rw [if_pos c30] at H
           have c30b0 : ((rd l0_0 x39_2) == (rd l1_0 x39_2)) = true := beq_iff_eq.mpr c30
           have c30b1 : ((rd l0_0 x39_2) != (rd l1_0 x39_2)) = false := bne_eq_false_iff_eq.mpr c30
           clear c30
           have H' := Aside0.mk H
           clear H
           have hnb31 := NB395_396.out
           have hnc31 := NB396_395.out
           obtain ⟨hcz32_0, hcz32_1, hcz32_2, hcz32_3, hfz32_0, hfz32_1, hfz32_2, hfz32_3⟩ := cq4 BK395.out
           have p399 : 0 ≤ (x39_2 : Int) := of_decide_eq_true asm
           have q399 : x39_2 < (l0_0.length : Int) := of_decide_eq_true asm
           obtain ⟨ad399, e399, hx399_0⟩ := Kd.at_int HR0_0.out x39_2 p399 q399
           cases e399
           (first | replace hx399_0 := (HB.out.cell (World.block_lt_of_cell? w _ hx399_0)).trans hx399_0 | skip)
           replace p399 := eq_true p399
           replace q399 := eq_true q399
           obtain ⟨hcz33_0, hcz33_1, hcz33_2, hcz33_3, hfz33_0, hfz33_1, hfz33_2, hfz33_3⟩ := cq4 BK396.out
           have p400 : 0 ≤ (x39_2 : Int) := of_decide_eq_true asm
           have q400 : x39_2 < (l1_0.length : Int) := of_decide_eq_true asm
           obtain ⟨ad400, e400, hx400_0⟩ := Kd.at_int HR1_0.out x39_2 p400 q400
           cases e400
           (first | replace hx400_0 := (HB.out.cell (World.block_lt_of_cell? w _ hx400_0)).trans hx400_0 | skip)
           replace p400 := eq_true p400
           replace q400 := eq_true q400
           go_wp2
           repeat (go_quiet (fail); try go_wp2)
           go_roundg k2
           case measure => have := HJ2.out; have := HK2.out; omega
           case rel => exact ⟨(wrap64 (x39_2 + 1)), rs, H', ⟨by have := HJ2.out; have := HK2.out; omega⟩, ⟨by (with_reducible repeat (first | refine blk_drewN ?_ _ | refine blk_drew ?_ | refine blk_alloc ?_ _)); exact BK395.out⟩, ⟨by (with_reducible repeat (first | refine blk_drewN ?_ _ | refine blk_drew ?_ | refine blk_alloc ?_ _)); exact BK396.out⟩, ⟨by repeat (first | (with_reducible first | exact HB.out | apply below_alloc | apply pw_below_drewN | apply below_drew1 | refine below_set ?_ GE395.out | refine below_set ?_ GE396.out) | exact HB.out)⟩⟩
          ·rw [if_neg c30] at H
           have c30b0 : ((rd l0_0 x39_2) == (rd l1_0 x39_2)) = false := beq_eq_false_iff_ne.mpr c30
           have c30b1 : ((rd l0_0 x39_2) != (rd l1_0 x39_2)) = true := bne_iff_ne.mpr c30
           obtain rfl := Option.some.inj H
           have hnb34 := NB395_396.out
           have hnc34 := NB396_395.out
           obtain ⟨hcz35_0, hcz35_1, hcz35_2, hcz35_3, hfz35_0, hfz35_1, hfz35_2, hfz35_3⟩ := cq4 BK395.out
           have p399 : 0 ≤ (x39_2 : Int) := of_decide_eq_true asm
           have q399 : x39_2 < (l0_0.length : Int) := of_decide_eq_true asm
           obtain ⟨ad399, e399, hx399_0⟩ := Kd.at_int HR0_0.out x39_2 p399 q399
           cases e399
           (first | replace hx399_0 := (HB.out.cell (World.block_lt_of_cell? w _ hx399_0)).trans hx399_0 | skip)
           replace p399 := eq_true p399
           replace q399 := eq_true q399
           obtain ⟨hcz36_0, hcz36_1, hcz36_2, hcz36_3, hfz36_0, hfz36_1, hfz36_2, hfz36_3⟩ := cq4 BK396.out
           have p400 : 0 ≤ (x39_2 : Int) := of_decide_eq_true asm
           have q400 : x39_2 < (l1_0.length : Int) := of_decide_eq_true asm
           obtain ⟨ad400, e400, hx400_0⟩ := Kd.at_int HR1_0.out x39_2 p400 q400
           cases e400
           (first | replace hx400_0 := (HB.out.cell (World.block_lt_of_cell? w _ hx400_0)).trans hx400_0 | skip)
           replace p400 := eq_true p400
           replace q400 := eq_true q400
           go_wp2
           repeat (go_quiet (fail); try go_wp2)
           go_ret
           exact ⟨by first | rfl | (simp [errW_none, errW_some] <;> rfl) | (simp [*, errW_none, errW_some] <;> rfl), by repeat (first | (with_reducible first | exact HB.out | apply below_alloc | apply pw_below_drewN | apply below_drew1 | refine below_set ?_ GE395.out | refine below_set ?_ GE396.out) | exact HB.out)⟩
         ·rw [if_neg c29] at H
          exact absurd H (by simp)
        ·rw [if_neg c28] at H
         exact absurd H (by simp)
       ·rw [if_neg c27] at H
        exact absurd H (by simp)
      ·rw [if_neg c26] at H
       have c26b0 : decide (x39_2 < (l0_0.length : Int)) = false := decide_eq_false c26
       clear c26
       obtain rfl := Option.some.inj H
       go_wp2
       repeat (go_quiet (fail); try go_wp2)
       go_ret
       exact ⟨by first | rfl | (simp [errW_none, errW_some] <;> rfl) | (simp [*, errW_none, errW_some] <;> rfl), by repeat (first | (with_reducible first | exact HB.out | apply below_alloc | apply pw_below_drewN | apply below_drew1 | refine below_set ?_ GE395.out | refine below_set ?_ GE396.out) | exact HB.out)⟩

end Go.Proofs.Ytepbebelbcbciaa.Q
