/- Functions of the program as plain Lean functions, each with a proof that the program's call comes to what it says; and rows of statements over them. No condition but those that the theorems name. Written by a program of this session (myprint.py, over the kit's print with patches of its own). -/
import Derived.Test.YtepbebelbcbciaaQx0
import Derived.Test.YtepbebelbcbciaaQx7
import Derived.Test.YtepbebelbcbciaaZWords
namespace Go.Proofs.Ytepbebelbcbciaa.Q
open Go.RowKit Go.Proofs.YtepbebelbcbciaaW.PrintWords Go.Proofs.YtepbebelbcbciaaW.PrintLast Go.Proofs.YtepbebelbcbciaaW.PrintMore
attribute [local go_sem] max2_int min2_int max_two min_two max_three min_three max_four min_four   -- for this text's walks alone
set_option linter.unusedVariables false
set_option linter.unusedSimpArgs false

/-! ### step_Fits: function 66 -/
mutual
def step_Fits.l0 : Nat → List Int → Int → Int → Int → Int → Int → Int → Int → List Int → List (List (List Int)) → List (List (List Int)) → Option (Bool)
 | 0, _, _, _, _, _, _, _, _, _, _, _ => none
 | k + 1, x11, x12, x13, x245000, x245001, x245002, x245003, x245004, x246000, x246001, x246002 => if x13 < x12 then (if 0 ≤ x13 then (if x13 < (x11.length : Int) then (if (rd x11 x13) < 0 then (some false) else (if (rd x11 x13) ≥ x245000 then (some false) else (step_Fits.l0 k x11 x12 (wrap64 (x13 + 1)) x245000 x245001 x245002 x245003 x245004 x246000 x246001 x246002))) else (none)) else (none)) else (if (x246000.length : Int) = 0 then (if (x246001.length : Int) = 0 then (some ((x246002.length : Int) == 0)) else (some false)) else (if (x246000.length : Int) > 128 then (step_Fits.j1 k (x246000.length : Int) true x245000 x245001 x245002 x245003 x245004 x246000 x246001 x246002) else (if (x246001.length : Int) = x245004 then (step_Fits.j1 k (x246000.length : Int) ((x246002.length : Int) != x245004) x245000 x245001 x245002 x245003 x245004 x246000 x246001 x246002) else (step_Fits.j1 k (x246000.length : Int) true x245000 x245001 x245002 x245003 x245004 x246000 x246001 x246002))))
def step_Fits.j1 : Nat → Int → Bool → Int → Int → Int → Int → Int → List Int → List (List (List Int)) → List (List (List Int)) → Option (Bool)
 | 0, _, _, _, _, _, _, _, _, _, _ => none
 | k + 1, x7, x62, x245000, x245001, x245002, x245003, x245004, x246000, x246001, x246002 => if x62 = true then (some false) else (step_Fits.l1 k x7 x246001 (x246001.length : Int) 0 x245000 x245001 x245002 x245003 x245004 x246000 x246001 x246002)
def step_Fits.l1 : Nat → Int → List (List (List Int)) → Int → Int → Int → Int → Int → Int → Int → List Int → List (List (List Int)) → List (List (List Int)) → Option (Bool)
 | 0, _, _, _, _, _, _, _, _, _, _, _, _ => none
 | k + 1, x7, x65, x66, x67, x245000, x245001, x245002, x245003, x245004, x246000, x246001, x246002 => if x67 < x66 then (if 0 ≤ x67 then (if x67 < (x65.length : Int) then ((step_rows.f k (rd_L3 x65 x67) x7 x245001).bind fun t248 => (if t248 = true then (if x67 < (x246002.length : Int) then ((step_rows.f k (rd_L3 x246002 x67) x7 x245001).bind fun t250 => (if t250 = true then (step_Fits.l1 k x7 x65 x66 (wrap64 (x67 + 1)) x245000 x245001 x245002 x245003 x245004 x246000 x246001 x246002) else (some false))) else (none)) else (some false))) else (none)) else (none)) else (some true)
end
def step_Fits.f (k : Nat) (a0_0 : Int) (a0_1 : Int) (a0_2 : Int) (a0_3 : Int) (a0_4 : Int) (l1_0 : List Int) (l1_1 : List (List (List Int))) (l1_2 : List (List (List Int))) : Option (Bool) := step_Fits.l0 k l1_0 (l1_0.length : Int) 0 a0_0 a0_1 a0_2 a0_3 a0_4 l1_0 l1_1 l1_2
theorem step_Fits.mono_l : ∀ k, (∀ y0 y1 y2 y3 y4 y5 y6 y7 y8 y9 y10, LeO (step_Fits.l0 k y0 y1 y2 y3 y4 y5 y6 y7 y8 y9 y10) (step_Fits.l0 (k + 1) y0 y1 y2 y3 y4 y5 y6 y7 y8 y9 y10)) ∧ (∀ y0 y1 y2 y3 y4 y5 y6 y7 y8 y9, LeO (step_Fits.j1 k y0 y1 y2 y3 y4 y5 y6 y7 y8 y9) (step_Fits.j1 (k + 1) y0 y1 y2 y3 y4 y5 y6 y7 y8 y9)) ∧ (∀ y0 y1 y2 y3 y4 y5 y6 y7 y8 y9 y10 y11, LeO (step_Fits.l1 k y0 y1 y2 y3 y4 y5 y6 y7 y8 y9 y10 y11) (step_Fits.l1 (k + 1) y0 y1 y2 y3 y4 y5 y6 y7 y8 y9 y10 y11))
 | 0 => ⟨fun _ _ _ _ _ _ _ _ _ _ _ r h => by simp [step_Fits.l0] at h, fun _ _ _ _ _ _ _ _ _ _ r h => by simp [step_Fits.j1] at h, fun _ _ _ _ _ _ _ _ _ _ _ _ r h => by simp [step_Fits.l1] at h⟩
 | k + 1 => by
  obtain ⟨ih0, ih1, ih2⟩ := step_Fits.mono_l k
  refine ⟨?_, ?_, ?_⟩
  ·intro y0 y1 y2 y3 y4 y5 y6 y7 y8 y9 y10
   unfold step_Fits.l0
   repeat' first
   | (with_reducible exact ih0 _ _ _ _ _ _ _ _ _ _ _)
   | (with_reducible exact ih1 _ _ _ _ _ _ _ _ _ _)
   | (with_reducible exact ih2 _ _ _ _ _ _ _ _ _ _ _ _)
   | (with_reducible exact step_rows.mono _ _ _ _)
   | (with_reducible exact LeO.refl _)
   | (with_reducible exact LeO.none _)
   | (with_reducible refine LeO.ite ?_ ?_)
   | (with_reducible refine LeO.bind ?_ (fun _ => ?_))
   | exact ih0 _ _ _ _ _ _ _ _ _ _ _
   | exact ih1 _ _ _ _ _ _ _ _ _ _
   | exact ih2 _ _ _ _ _ _ _ _ _ _ _ _
   | exact step_rows.mono _ _ _ _
   | exact LeO.none _
   | refine LeO.ite ?_ ?_
   | refine LeO.bind ?_ (fun _ => ?_)
  ·intro y0 y1 y2 y3 y4 y5 y6 y7 y8 y9
   unfold step_Fits.j1
   repeat' first
   | (with_reducible exact ih0 _ _ _ _ _ _ _ _ _ _ _)
   | (with_reducible exact ih1 _ _ _ _ _ _ _ _ _ _)
   | (with_reducible exact ih2 _ _ _ _ _ _ _ _ _ _ _ _)
   | (with_reducible exact step_rows.mono _ _ _ _)
   | (with_reducible exact LeO.refl _)
   | (with_reducible exact LeO.none _)
   | (with_reducible refine LeO.ite ?_ ?_)
   | (with_reducible refine LeO.bind ?_ (fun _ => ?_))
   | exact ih0 _ _ _ _ _ _ _ _ _ _ _
   | exact ih1 _ _ _ _ _ _ _ _ _ _
   | exact ih2 _ _ _ _ _ _ _ _ _ _ _ _
   | exact step_rows.mono _ _ _ _
   | exact LeO.none _
   | refine LeO.ite ?_ ?_
   | refine LeO.bind ?_ (fun _ => ?_)
  ·intro y0 y1 y2 y3 y4 y5 y6 y7 y8 y9 y10 y11
   unfold step_Fits.l1
   repeat' first
   | (with_reducible exact ih0 _ _ _ _ _ _ _ _ _ _ _)
   | (with_reducible exact ih1 _ _ _ _ _ _ _ _ _ _)
   | (with_reducible exact ih2 _ _ _ _ _ _ _ _ _ _ _ _)
   | (with_reducible exact step_rows.mono _ _ _ _)
   | (with_reducible exact LeO.refl _)
   | (with_reducible exact LeO.none _)
   | (with_reducible refine LeO.ite ?_ ?_)
   | (with_reducible refine LeO.bind ?_ (fun _ => ?_))
   | exact ih0 _ _ _ _ _ _ _ _ _ _ _
   | exact ih1 _ _ _ _ _ _ _ _ _ _
   | exact ih2 _ _ _ _ _ _ _ _ _ _ _ _
   | exact step_rows.mono _ _ _ _
   | exact LeO.none _
   | refine LeO.ite ?_ ?_
   | refine LeO.bind ?_ (fun _ => ?_)
theorem step_Fits.mono : ∀ a0 a1 a2 a3 a4 a5 a6 a7 k, LeO (step_Fits.f k a0 a1 a2 a3 a4 a5 a6 a7) (step_Fits.f (k + 1) a0 a1 a2 a3 a4 a5 a6 a7) := by
 intro a0 a1 a2 a3 a4 a5 a6 a7 k
 obtain ⟨ih0, ih1, ih2⟩ := step_Fits.mono_l k
 unfold step_Fits.f
 repeat' first
   | (with_reducible exact ih0 _ _ _ _ _ _ _ _ _ _ _)
   | (with_reducible exact ih1 _ _ _ _ _ _ _ _ _ _)
   | (with_reducible exact ih2 _ _ _ _ _ _ _ _ _ _ _ _)
   | (with_reducible exact step_rows.mono _ _ _ _)
   | (with_reducible exact LeO.refl _)
   | (with_reducible exact LeO.none _)
   | (with_reducible refine LeO.ite ?_ ?_)
   | (with_reducible refine LeO.bind ?_ (fun _ => ?_))
   | exact ih0 _ _ _ _ _ _ _ _ _ _ _
   | exact ih1 _ _ _ _ _ _ _ _ _ _
   | exact ih2 _ _ _ _ _ _ _ _ _ _ _ _
   | exact step_rows.mono _ _ _ _
   | exact LeO.none _
   | refine LeO.ite ?_ ?_
   | refine LeO.bind ?_ (fun _ => ?_)
set_option maxHeartbeats 8000000 in
set_option maxRecDepth 100000 in
theorem step_Fits.calls (k : Nat) (a0_0 : Int) (a0_1 : Int) (a0_2 : Int) (a0_3 : Int) (a0_4 : Int) (A1_0 : Option Addr) (c1_0 : Nat) (l1_0 : List Int) (A1_1 : Option Addr) (c1_1 : Nat) (l1_1 : List (List (List Int))) (A1_2 : Option Addr) (c1_2 : Nat) (l1_2 : List (List (List Int))) (r : Bool) (w : World) (hr1_0 : Kd.C (Kd.int .i64) w A1_0 l1_0.length l1_0) (hc1_0 : l1_0.length ≤ c1_0) (hr1_1 : Kd.C (Kd.slice 61 (Kd.slice 72 (Kd.int .i32))) w A1_1 l1_1.length l1_1) (hc1_1 : l1_1.length ≤ c1_1) (hr1_2 : Kd.C (Kd.slice 61 (Kd.slice 72 (Kd.int .i32))) w A1_2 l1_2.length l1_2) (hc1_2 : l1_2.length ≤ c1_2) (h : step_Fits.f k a0_0 a0_1 a0_2 a0_3 a0_4 l1_0 l1_1 l1_2 = some r) :
  Calls Try.prog 66 #[.agg #[.int .i64 a0_0, .int .i64 a0_1, .int .i64 a0_2, .int .i64 a0_3, .int .i64 a0_4], .agg #[.slice A1_0 l1_0.length c1_0, .slice A1_1 l1_1.length c1_1, .slice A1_2 l1_2.length c1_2]] w fun e w' => e = .returned (.bool r) ∧ Below w.heap.size w w' := by
 have hu23 := Try.underlying23
 have hu51 := Try.underlying51
 have HR1_0 := Aside0.mk hr1_0
 have HC1_0 := Aside0.mk hc1_0
 clear hr1_0 hc1_0
 have HR1_1 := Aside0.mk hr1_1
 have HC1_1 := Aside0.mk hc1_1
 clear hr1_1 hc1_1
 have HR1_2 := Aside0.mk hr1_2
 have HC1_2 := Aside0.mk hc1_2
 clear hr1_2 hc1_2
 have HB := Aside0.mk (Below.refl w.heap.size w)
 have H : (step_Fits.l0 k l1_0 (l1_0.length : Int) 0 a0_0 a0_1 a0_2 a0_3 a0_4 l1_0 l1_1 l1_2) = some r := h
 clear h
 have H' := Aside0.mk H
 clear H
 go_enter Try.func66, Try.ntmps66
 go_wp2_with (first | ((with_reducible refine gate_dst (N := 2) rfl ?_); (try (refine gate_guard (by rfl) ?_; dsimp only)); refine bxe (N := 2) (cs := #[.int .i64 a0_0, .int .i64 a0_1, .int .i64 a0_2, .int .i64 a0_3, .int .i64 a0_4]) (t := 23) ?_; intro gb244 hg w3 hbox hb; have n0_ := Aside0.mk (below_step bel hb); have n1_ := Aside0.mk (hbox); have n2_ := Aside0.mk ((bsz hg : w.heap.size ≤ gb244)); have n3_ := Aside0.mk ((bsz hg : w.heap.size ≤ gb244)); clear HB; have HB := n0_; have BK244 := n1_; have GW244 := n2_; have GE244 := n3_; clear n0_ n1_ n2_ n3_; clear hb hbox hg) | ((with_reducible refine gate_dst (N := 3) rfl ?_); (try (refine gate_guard (by rfl) ?_; dsimp only)); refine bxe (N := 3) (cs := #[.slice A1_0 l1_0.length c1_0, .slice A1_1 l1_1.length c1_1, .slice A1_2 l1_2.length c1_2]) (t := 51) ?_; intro gb245 hg w4 hbox hb; have n0_ := Aside0.mk (bkb BK244.out hb); have n1_ := Aside0.mk (below_step bel hb); have n2_ := Aside0.mk (hbox); have n3_ := Aside0.mk ((bsz hg : w.heap.size ≤ gb245)); have n4_ := Aside0.mk ((bsz hg : w.heap.size ≤ gb245)); have n5_ := Aside0.mk ((nel BK244.out hg : gb244 ≠ gb245)); have n6_ := Aside0.mk ((neg_ BK244.out hg : gb245 ≠ gb244)); clear BK244; clear HB; have BK244 := n0_; have HB := n1_; have BK245 := n2_; have GW245 := n3_; have GE245 := n4_; have NB244_245 := n5_; have NB245_244 := n6_; clear n0_ n1_ n2_ n3_ n4_ n5_ n6_; clear hb hbox hg; have hnb5 := NB245_244.out; have hnc5 := NB244_245.out; obtain ⟨hcz6_0, hcz6_1, hcz6_2, hfz6_0, hfz6_1, hfz6_2⟩ := cq3 BK245.out))
 repeat (go_quiet (first | ((with_reducible refine gate_dst (N := 2) rfl ?_); (try (refine gate_guard (by rfl) ?_; dsimp only)); refine bxe (N := 2) (cs := #[.int .i64 a0_0, .int .i64 a0_1, .int .i64 a0_2, .int .i64 a0_3, .int .i64 a0_4]) (t := 23) ?_; intro gb244 hg w3 hbox hb; have n0_ := Aside0.mk (below_step bel hb); have n1_ := Aside0.mk (hbox); have n2_ := Aside0.mk ((bsz hg : w.heap.size ≤ gb244)); have n3_ := Aside0.mk ((bsz hg : w.heap.size ≤ gb244)); clear HB; have HB := n0_; have BK244 := n1_; have GW244 := n2_; have GE244 := n3_; clear n0_ n1_ n2_ n3_; clear hb hbox hg) | ((with_reducible refine gate_dst (N := 3) rfl ?_); (try (refine gate_guard (by rfl) ?_; dsimp only)); refine bxe (N := 3) (cs := #[.slice A1_0 l1_0.length c1_0, .slice A1_1 l1_1.length c1_1, .slice A1_2 l1_2.length c1_2]) (t := 51) ?_; intro gb245 hg w4 hbox hb; have n0_ := Aside0.mk (bkb BK244.out hb); have n1_ := Aside0.mk (below_step bel hb); have n2_ := Aside0.mk (hbox); have n3_ := Aside0.mk ((bsz hg : w.heap.size ≤ gb245)); have n4_ := Aside0.mk ((bsz hg : w.heap.size ≤ gb245)); have n5_ := Aside0.mk ((nel BK244.out hg : gb244 ≠ gb245)); have n6_ := Aside0.mk ((neg_ BK244.out hg : gb245 ≠ gb244)); clear BK244; clear HB; have BK244 := n0_; have HB := n1_; have BK245 := n2_; have GW245 := n3_; have GE245 := n4_; have NB244_245 := n5_; have NB245_244 := n6_; clear n0_ n1_ n2_ n3_ n4_ n5_ n6_; clear hb hbox hg; have hnb5 := NB245_244.out; have hnc5 := NB244_245.out; obtain ⟨hcz6_0, hcz6_1, hcz6_2, hfz6_0, hfz6_1, hfz6_2⟩ := cq3 BK245.out)); try go_wp2_with (first | ((with_reducible refine gate_dst (N := 2) rfl ?_); (try (refine gate_guard (by rfl) ?_; dsimp only)); refine bxe (N := 2) (cs := #[.int .i64 a0_0, .int .i64 a0_1, .int .i64 a0_2, .int .i64 a0_3, .int .i64 a0_4]) (t := 23) ?_; intro gb244 hg w3 hbox hb; have n0_ := Aside0.mk (below_step bel hb); have n1_ := Aside0.mk (hbox); have n2_ := Aside0.mk ((bsz hg : w.heap.size ≤ gb244)); have n3_ := Aside0.mk ((bsz hg : w.heap.size ≤ gb244)); clear HB; have HB := n0_; have BK244 := n1_; have GW244 := n2_; have GE244 := n3_; clear n0_ n1_ n2_ n3_; clear hb hbox hg) | ((with_reducible refine gate_dst (N := 3) rfl ?_); (try (refine gate_guard (by rfl) ?_; dsimp only)); refine bxe (N := 3) (cs := #[.slice A1_0 l1_0.length c1_0, .slice A1_1 l1_1.length c1_1, .slice A1_2 l1_2.length c1_2]) (t := 51) ?_; intro gb245 hg w4 hbox hb; have n0_ := Aside0.mk (bkb BK244.out hb); have n1_ := Aside0.mk (below_step bel hb); have n2_ := Aside0.mk (hbox); have n3_ := Aside0.mk ((bsz hg : w.heap.size ≤ gb245)); have n4_ := Aside0.mk ((bsz hg : w.heap.size ≤ gb245)); have n5_ := Aside0.mk ((nel BK244.out hg : gb244 ≠ gb245)); have n6_ := Aside0.mk ((neg_ BK244.out hg : gb245 ≠ gb244)); clear BK244; clear HB; have BK244 := n0_; have HB := n1_; have BK245 := n2_; have GW245 := n3_; have GE245 := n4_; have NB244_245 := n5_; have NB245_244 := n6_; clear n0_ n1_ n2_ n3_ n4_ n5_ n6_; clear hb hbox hg; have hnb5 := NB245_244.out; have hnc5 := NB244_245.out; obtain ⟨hcz6_0, hcz6_1, hcz6_2, hfz6_0, hfz6_1, hfz6_2⟩ := cq3 BK245.out)))
 go_loopg [13] k (fun kq v13 w' => ∃ (x13_1 : Int), v13 = .int .i64 x13_1 ∧ Aside0 (step_Fits.l0 kq l1_0 (l1_0.length : Int) x13_1 a0_0 a0_1 a0_2 a0_3 a0_4 l1_0 l1_1 l1_2 = some r) ∧ Aside0 (kq ≤ k) ∧ Aside0 (w'.heap[gb244]? = some (.cells #[.int .i64 a0_0, .int .i64 a0_1, .int .i64 a0_2, .int .i64 a0_3, .int .i64 a0_4] 23 (0, 0))) ∧ Aside0 (w'.heap[gb245]? = some (.cells #[(.slice A1_0 l1_0.length c1_0), (.slice A1_1 l1_1.length c1_1), (.slice A1_2 l1_2.length c1_2)] 51 (0, 0))) ∧ Aside0 (Below w.heap.size w w'))
 case atStart => exact ⟨(0), rs, H', ⟨Nat.le_refl _⟩, ⟨by (with_reducible repeat (first | refine blk_drewN ?_ _ | refine blk_drew ?_ | refine blk_alloc ?_ _)); exact BK244.out⟩, ⟨by (with_reducible repeat (first | refine blk_drewN ?_ _ | refine blk_drew ?_ | refine blk_alloc ?_ _)); exact BK245.out⟩, ⟨by repeat (first | (with_reducible first | exact HB.out | apply below_alloc | apply pw_below_drewN | apply below_drew1 | refine below_set ?_ GE244.out | refine below_set ?_ GE245.out) | exact HB.out)⟩⟩
 case round =>
  clear H'
  try clear c1
  try clear p2
  try clear c5
  try clear c6
  try clear hcz6_0
  try clear hcz6_1
  try clear hcz6_2
  try clear hfz6_0
  try clear hfz6_1
  try clear hfz6_2
  obtain ⟨x13_1, rfl, HA, HK1, BK244, BK245, HB⟩ := hrel
  cases gk with
  | zero => exact absurd HA.out (by simp [step_Fits.l0])
  | succ k1 =>
   have H := HA.out
   clear HA
   simp only [step_Fits.l0] at H
   by_cases c7 : x13_1 < (l1_0.length : Int)
   ·rw [if_pos c7] at H
    have c7b0 : decide (x13_1 < (l1_0.length : Int)) = true := decide_eq_true c7
    clear c7
    by_cases c8 : 0 ≤ x13_1
    ·rw [if_pos c8] at H
     have c8b0 : decide (0 ≤ x13_1) = true := decide_eq_true c8
     clear c8
     by_cases c9 : x13_1 < (l1_0.length : Int)
     ·rw [if_pos c9] at H
      have c9b0 : decide (x13_1 < (l1_0.length : Int)) = true := decide_eq_true c9
      clear c9
      by_cases c10 : (rd l1_0 x13_1) < 0
      ·rw [if_pos c10] at H
       have c10b0 : decide ((rd l1_0 x13_1) < 0) = true := decide_eq_true c10
       clear c10
       obtain rfl := Option.some.inj H
       have p246 : 0 ≤ (x13_1 : Int) := of_decide_eq_true asm
       have q246 : x13_1 < (l1_0.length : Int) := of_decide_eq_true asm
       obtain ⟨ad246, e246, hx246_0⟩ := Kd.at_int HR1_0.out x13_1 p246 q246
       cases e246
       (first | replace hx246_0 := (HB.out.cell (World.block_lt_of_cell? w _ hx246_0)).trans hx246_0 | skip)
       replace p246 := eq_true p246
       replace q246 := eq_true q246
       go_wp2
       repeat (go_quiet (fail); try go_wp2)
       go_ret
       exact ⟨by first | rfl | (simp [errW_none, errW_some] <;> rfl) | (simp [*, errW_none, errW_some] <;> rfl), by repeat (first | (with_reducible first | exact HB.out | apply below_alloc | apply pw_below_drewN | apply below_drew1 | refine below_set ?_ GE244.out | refine below_set ?_ GE245.out) | exact HB.out)⟩
      ·rw [if_neg c10] at H
       have c10b0 : decide ((rd l1_0 x13_1) < 0) = false := decide_eq_false c10
       clear c10
       by_cases c11 : (rd l1_0 x13_1) ≥ a0_0
       ·rw [if_pos c11] at H
        have c11b0 : decide (a0_0 ≤ (rd l1_0 x13_1)) = true := decide_eq_true c11
        clear c11
        obtain rfl := Option.some.inj H
        have p246 : 0 ≤ (x13_1 : Int) := of_decide_eq_true asm
        have q246 : x13_1 < (l1_0.length : Int) := of_decide_eq_true asm
        obtain ⟨ad246, e246, hx246_0⟩ := Kd.at_int HR1_0.out x13_1 p246 q246
        cases e246
        (first | replace hx246_0 := (HB.out.cell (World.block_lt_of_cell? w _ hx246_0)).trans hx246_0 | skip)
        replace p246 := eq_true p246
        replace q246 := eq_true q246
        have hnb12 := NB244_245.out
        have hnc12 := NB245_244.out
        obtain ⟨hcz13_0, hcz13_1, hcz13_2, hcz13_3, hcz13_4, hfz13_0, hfz13_1, hfz13_2, hfz13_3, hfz13_4⟩ := cq5 BK244.out
        go_wp2
        repeat (go_quiet (fail); try go_wp2)
        go_ret
        exact ⟨by first | rfl | (simp [errW_none, errW_some] <;> rfl) | (simp [*, errW_none, errW_some] <;> rfl), by repeat (first | (with_reducible first | exact HB.out | apply below_alloc | apply pw_below_drewN | apply below_drew1 | refine below_set ?_ GE244.out | refine below_set ?_ GE245.out) | exact HB.out)⟩
       ·rw [if_neg c11] at H
        have c11b0 : decide (a0_0 ≤ (rd l1_0 x13_1)) = false := decide_eq_false c11
        clear c11
        have H' := Aside0.mk H
        clear H
        have p246 : 0 ≤ (x13_1 : Int) := of_decide_eq_true asm
        have q246 : x13_1 < (l1_0.length : Int) := of_decide_eq_true asm
        obtain ⟨ad246, e246, hx246_0⟩ := Kd.at_int HR1_0.out x13_1 p246 q246
        cases e246
        (first | replace hx246_0 := (HB.out.cell (World.block_lt_of_cell? w _ hx246_0)).trans hx246_0 | skip)
        replace p246 := eq_true p246
        replace q246 := eq_true q246
        have hnb14 := NB244_245.out
        have hnc14 := NB245_244.out
        obtain ⟨hcz15_0, hcz15_1, hcz15_2, hcz15_3, hcz15_4, hfz15_0, hfz15_1, hfz15_2, hfz15_3, hfz15_4⟩ := cq5 BK244.out
        go_wp2
        repeat (go_quiet (fail); try go_wp2)
        go_roundg k1
        case measure => have := HK1.out; omega
        case rel => exact ⟨(wrap64 (x13_1 + 1)), rs, H', ⟨by have := HK1.out; omega⟩, ⟨by (with_reducible repeat (first | refine blk_drewN ?_ _ | refine blk_drew ?_ | refine blk_alloc ?_ _)); exact BK244.out⟩, ⟨by (with_reducible repeat (first | refine blk_drewN ?_ _ | refine blk_drew ?_ | refine blk_alloc ?_ _)); exact BK245.out⟩, ⟨by repeat (first | (with_reducible first | exact HB.out | apply below_alloc | apply pw_below_drewN | apply below_drew1 | refine below_set ?_ GE244.out | refine below_set ?_ GE245.out) | exact HB.out)⟩⟩
     ·rw [if_neg c9] at H
      exact absurd H (by simp)
    ·rw [if_neg c8] at H
     exact absurd H (by simp)
   ·rw [if_neg c7] at H
    have c7b0 : decide (x13_1 < (l1_0.length : Int)) = false := decide_eq_false c7
    clear c7
    by_cases c16 : (l1_0.length : Int) = 0
    ·rw [if_pos c16] at H
     have c16b0 : ((l1_0.length : Int) == 0) = true := beq_iff_eq.mpr c16
     have c16b1 : ((l1_0.length : Int) != 0) = false := bne_eq_false_iff_eq.mpr c16
     clear c16
     by_cases c17 : (l1_1.length : Int) = 0
     ·rw [if_pos c17] at H
      have c17b0 : ((l1_1.length : Int) == 0) = true := beq_iff_eq.mpr c17
      have c17b1 : ((l1_1.length : Int) != 0) = false := bne_eq_false_iff_eq.mpr c17
      clear c17
      obtain rfl := Option.some.inj H
      have hnb18 := NB245_244.out
      have hnc18 := NB244_245.out
      obtain ⟨hcz19_0, hcz19_1, hcz19_2, hfz19_0, hfz19_1, hfz19_2⟩ := cq3 BK245.out
      go_wp2
      repeat (go_quiet (fail); try go_wp2)
      go_ret
      exact ⟨by first | rfl | (simp [errW_none, errW_some] <;> rfl) | (simp [*, errW_none, errW_some] <;> rfl), by repeat (first | (with_reducible first | exact HB.out | apply below_alloc | apply pw_below_drewN | apply below_drew1 | refine below_set ?_ GE244.out | refine below_set ?_ GE245.out) | exact HB.out)⟩
     ·rw [if_neg c17] at H
      have c17b0 : ((l1_1.length : Int) == 0) = false := beq_eq_false_iff_ne.mpr c17
      have c17b1 : ((l1_1.length : Int) != 0) = true := bne_iff_ne.mpr c17
      have c17b2 : ¬ (l1_1 = []) := fun h_ => c17 (by rw [h_]; rfl)
      obtain rfl := Option.some.inj H
      have hnb20 := NB245_244.out
      have hnc20 := NB244_245.out
      obtain ⟨hcz21_0, hcz21_1, hcz21_2, hfz21_0, hfz21_1, hfz21_2⟩ := cq3 BK245.out
      go_wp2
      repeat (go_quiet (fail); try go_wp2)
      go_ret
      exact ⟨by first | rfl | (simp [errW_none, errW_some] <;> rfl) | (simp [*, errW_none, errW_some] <;> rfl), by repeat (first | (with_reducible first | exact HB.out | apply below_alloc | apply pw_below_drewN | apply below_drew1 | refine below_set ?_ GE244.out | refine below_set ?_ GE245.out) | exact HB.out)⟩
    ·rw [if_neg c16] at H
     have c16b0 : ((l1_0.length : Int) == 0) = false := beq_eq_false_iff_ne.mpr c16
     have c16b1 : ((l1_0.length : Int) != 0) = true := bne_iff_ne.mpr c16
     have c16b2 : ¬ (l1_0 = []) := fun h_ => c16 (by rw [h_]; rfl)
     have HC22 := Aside0.mk H
     clear H
     have hnb23 := NB245_244.out
     have hnc23 := NB244_245.out
     obtain ⟨hcz24_0, hcz24_1, hcz24_2, hfz24_0, hfz24_1, hfz24_2⟩ := cq3 BK245.out
     go_upto_region 10 with (fail)
     repeat (go_quiet (fail); go_upto_region 10 with (fail))
     go_cut [62] (fun v62 wc => ∃ (kq : Nat) (x62_21 : Bool), v62 = .bool x62_21 ∧ Aside0 (step_Fits.j1 kq (l1_0.length : Int) x62_21 a0_0 a0_1 a0_2 a0_3 a0_4 l1_0 l1_1 l1_2 = some r) ∧ Aside0 (kq ≤ k1) ∧ Aside0 (wc.heap[gb244]? = some (.cells #[.int .i64 a0_0, .int .i64 a0_1, .int .i64 a0_2, .int .i64 a0_3, .int .i64 a0_4] 23 (0, 0))) ∧ Aside0 (wc.heap[gb245]? = some (.cells #[(.slice A1_0 l1_0.length c1_0), (.slice A1_1 l1_1.length c1_1), (.slice A1_2 l1_2.length c1_2)] 51 (0, 0))) ∧ Aside0 (Below w.heap.size w wc))
     case first =>
      have H := HC22.out
      clear HC22
      by_cases c25 : (l1_0.length : Int) > 128
      ·rw [if_pos c25] at H
       have c25b0 : decide (128 < (l1_0.length : Int)) = true := decide_eq_true c25
       have c25b1 : decide (128 < l1_0.length) = true := decide_eq_true (by omega)
       clear c25
       (first | rw [c25b0] | (simp only [i64_w, i32_w]; rw [c25b0]) | skip)
       have H' := Aside0.mk H
       clear H
       go_wp2
       repeat (go_quiet (fail); try go_wp2)
       go_meet
       case rel => exact ⟨_, (true), rs, H', ⟨by have := HK1.out; first | omega | exact Nat.le_refl _⟩, ⟨by (with_reducible repeat (first | refine blk_drewN ?_ _ | refine blk_drew ?_ | refine blk_alloc ?_ _)); exact BK244.out⟩, ⟨by (with_reducible repeat (first | refine blk_drewN ?_ _ | refine blk_drew ?_ | refine blk_alloc ?_ _)); exact BK245.out⟩, ⟨by repeat (first | (with_reducible first | exact HB.out | apply below_alloc | apply pw_below_drewN | apply below_drew1 | refine below_set ?_ GE244.out | refine below_set ?_ GE245.out) | exact HB.out)⟩⟩
      ·rw [if_neg c25] at H
       have c25b0 : decide (128 < (l1_0.length : Int)) = false := decide_eq_false c25
       have c25b1 : decide (128 < l1_0.length) = false := decide_eq_false (by omega)
       clear c25
       (first | rw [c25b0] | (simp only [i64_w, i32_w]; rw [c25b0]) | skip)
       by_cases c26 : (l1_1.length : Int) = a0_4
       ·rw [if_pos c26] at H
        have c26b0 : ((l1_1.length : Int) == a0_4) = true := beq_iff_eq.mpr c26
        have c26b1 : ((l1_1.length : Int) != a0_4) = false := bne_eq_false_iff_eq.mpr c26
        clear c26
        have H' := Aside0.mk H
        clear H
        have hnb27 := NB245_244.out
        have hnc27 := NB244_245.out
        obtain ⟨hcz28_0, hcz28_1, hcz28_2, hfz28_0, hfz28_1, hfz28_2⟩ := cq3 BK245.out
        obtain ⟨hcz29_0, hcz29_1, hcz29_2, hcz29_3, hcz29_4, hfz29_0, hfz29_1, hfz29_2, hfz29_3, hfz29_4⟩ := cq5 BK244.out
        go_wp2
        repeat (go_quiet (fail); try go_wp2)
        go_meet
        case rel => exact ⟨_, (((l1_2.length : Int) != a0_4)), rs, H', ⟨by have := HK1.out; first | omega | exact Nat.le_refl _⟩, ⟨by (with_reducible repeat (first | refine blk_drewN ?_ _ | refine blk_drew ?_ | refine blk_alloc ?_ _)); exact BK244.out⟩, ⟨by (with_reducible repeat (first | refine blk_drewN ?_ _ | refine blk_drew ?_ | refine blk_alloc ?_ _)); exact BK245.out⟩, ⟨by repeat (first | (with_reducible first | exact HB.out | apply below_alloc | apply pw_below_drewN | apply below_drew1 | refine below_set ?_ GE244.out | refine below_set ?_ GE245.out) | exact HB.out)⟩⟩
       ·rw [if_neg c26] at H
        have c26b0 : ((l1_1.length : Int) == a0_4) = false := beq_eq_false_iff_ne.mpr c26
        have c26b1 : ((l1_1.length : Int) != a0_4) = true := bne_iff_ne.mpr c26
        have H' := Aside0.mk H
        clear H
        have hnb30 := NB245_244.out
        have hnc30 := NB244_245.out
        obtain ⟨hcz31_0, hcz31_1, hcz31_2, hfz31_0, hfz31_1, hfz31_2⟩ := cq3 BK245.out
        obtain ⟨hcz32_0, hcz32_1, hcz32_2, hcz32_3, hcz32_4, hfz32_0, hfz32_1, hfz32_2, hfz32_3, hfz32_4⟩ := cq5 BK244.out
        go_wp2
        repeat (go_quiet (fail); try go_wp2)
        go_meet
        case rel => exact ⟨_, (true), rs, H', ⟨by have := HK1.out; first | omega | exact Nat.le_refl _⟩, ⟨by (with_reducible repeat (first | refine blk_drewN ?_ _ | refine blk_drew ?_ | refine blk_alloc ?_ _)); exact BK244.out⟩, ⟨by (with_reducible repeat (first | refine blk_drewN ?_ _ | refine blk_drew ?_ | refine blk_alloc ?_ _)); exact BK245.out⟩, ⟨by repeat (first | (with_reducible first | exact HB.out | apply below_alloc | apply pw_below_drewN | apply below_drew1 | refine below_set ?_ GE244.out | refine below_set ?_ GE245.out) | exact HB.out)⟩⟩
     case rest =>
      clear HC22
      try clear c1
      try clear c2
      try clear p2
      try clear q2
      try clear hx2
      try clear c3
      try clear c5
      try clear c6
      try clear p6
      try clear c7
      try clear c7b0
      try clear c8
      try clear c8b0
      try clear c9
      try clear c9b0
      try clear c10
      try clear c10b0
      try clear c11
      try clear c11b0
      try clear c12
      try clear c14
      try clear c16
      try clear c16b0
      try clear c16b1
      try clear c16b2
      try clear c17
      try clear c17b0
      try clear c17b1
      try clear c17b2
      try clear c18
      try clear c20
      try clear c23
      try clear p24
      try clear q24
      try clear hx24
      try clear c25
      try clear c25b0
      try clear c25b1
      try clear c26
      try clear c26b0
      try clear c26b1
      try clear c27
      try clear c30
      try clear hcz13_0
      try clear hcz13_1
      try clear hcz13_2
      try clear hcz13_3
      try clear hcz13_4
      try clear hcz15_0
      try clear hcz15_1
      try clear hcz15_2
      try clear hcz15_3
      try clear hcz15_4
      try clear hcz19_0
      try clear hcz19_1
      try clear hcz19_2
      try clear hcz21_0
      try clear hcz21_1
      try clear hcz21_2
      try clear hcz24_0
      try clear hcz24_1
      try clear hcz24_2
      try clear hcz28_0
      try clear hcz28_1
      try clear hcz28_2
      try clear hcz29_0
      try clear hcz29_1
      try clear hcz29_2
      try clear hcz29_3
      try clear hcz29_4
      try clear hcz31_0
      try clear hcz31_1
      try clear hcz31_2
      try clear hcz32_0
      try clear hcz32_1
      try clear hcz32_2
      try clear hcz32_3
      try clear hcz32_4
      try clear hcz6_0
      try clear hcz6_1
      try clear hcz6_2
      try clear hfz13_0
      try clear hfz13_1
      try clear hfz13_2
      try clear hfz13_3
      try clear hfz13_4
      try clear hfz15_0
      try clear hfz15_1
      try clear hfz15_2
      try clear hfz15_3
      try clear hfz15_4
      try clear hfz19_0
      try clear hfz19_1
      try clear hfz19_2
      try clear hfz21_0
      try clear hfz21_1
      try clear hfz21_2
      try clear hfz24_0
      try clear hfz24_1
      try clear hfz24_2
      try clear hfz28_0
      try clear hfz28_1
      try clear hfz28_2
      try clear hfz29_0
      try clear hfz29_1
      try clear hfz29_2
      try clear hfz29_3
      try clear hfz29_4
      try clear hfz31_0
      try clear hfz31_1
      try clear hfz31_2
      try clear hfz32_0
      try clear hfz32_1
      try clear hfz32_2
      try clear hfz32_3
      try clear hfz32_4
      try clear hfz6_0
      try clear hfz6_1
      try clear hfz6_2
      try clear hx246_0
      try clear p2
      try clear p246
      try clear q246
      obtain ⟨kq, x62_21, rfl, HA, HJ21, BK244, BK245, HB⟩ := hcut
      cases kq with
      | zero => exact absurd HA.out (by simp [step_Fits.j1])
      | succ kj21 =>
       have H := HA.out
       clear HA
       simp only [step_Fits.j1] at H
       by_cases c33 : x62_21 = true
       ·subst c33
        have H1 : (some false) = some r := by rw [if_pos rfl] at H; exact H
        clear H
        have H := H1
        clear H1
        obtain rfl := Option.some.inj H
        go_wp2
        repeat (go_quiet (fail); try go_wp2)
        go_ret
        exact ⟨by first | rfl | (simp [errW_none, errW_some] <;> rfl) | (simp [*, errW_none, errW_some] <;> rfl), by repeat (first | (with_reducible first | exact HB.out | apply below_alloc | apply pw_below_drewN | apply below_drew1 | refine below_set ?_ GE244.out | refine below_set ?_ GE245.out) | exact HB.out)⟩
       ·replace c33 := Bool.eq_false_iff.mpr c33
        subst c33
        have H1 : (step_Fits.l1 kj21 (l1_0.length : Int) l1_1 (l1_1.length : Int) 0 a0_0 a0_1 a0_2 a0_3 a0_4 l1_0 l1_1 l1_2) = some r := by rw [if_neg (show ¬ (false = true) by decide)] at H; exact H
        clear H
        have H := H1
        clear H1
        have H' := Aside0.mk H
        clear H
        have hnb34 := NB245_244.out
        have hnc34 := NB244_245.out
        obtain ⟨hcz35_0, hcz35_1, hcz35_2, hfz35_0, hfz35_1, hfz35_2⟩ := cq3 BK245.out
        go_wp2
        repeat (go_quiet (fail); try go_wp2)
        go_loopg [67] kj21 (fun kq v67 w' => ∃ (x67_3 : Int), v67 = .int .i64 x67_3 ∧ Aside0 (step_Fits.l1 kq (l1_0.length : Int) l1_1 (l1_1.length : Int) x67_3 a0_0 a0_1 a0_2 a0_3 a0_4 l1_0 l1_1 l1_2 = some r) ∧ Aside0 (kq ≤ kj21) ∧ Aside0 (w'.heap[gb244]? = some (.cells #[.int .i64 a0_0, .int .i64 a0_1, .int .i64 a0_2, .int .i64 a0_3, .int .i64 a0_4] 23 (0, 0))) ∧ Aside0 (w'.heap[gb245]? = some (.cells #[(.slice A1_0 l1_0.length c1_0), (.slice A1_1 l1_1.length c1_1), (.slice A1_2 l1_2.length c1_2)] 51 (0, 0))) ∧ Aside0 (Below w.heap.size w w'))
        case atStart => exact ⟨(0), rs, H', ⟨Nat.le_refl _⟩, ⟨by (with_reducible repeat (first | refine blk_drewN ?_ _ | refine blk_drew ?_ | refine blk_alloc ?_ _)); exact BK244.out⟩, ⟨by (with_reducible repeat (first | refine blk_drewN ?_ _ | refine blk_drew ?_ | refine blk_alloc ?_ _)); exact BK245.out⟩, ⟨by repeat (first | (with_reducible first | exact HB.out | apply below_alloc | apply pw_below_drewN | apply below_drew1 | refine below_set ?_ GE244.out | refine below_set ?_ GE245.out) | exact HB.out)⟩⟩
        case round =>
         clear H'
         try clear c1
         try clear c2
         try clear p2
         try clear q2
         try clear hx2
         try clear c3
         try clear c5
         try clear c6
         try clear p6
         try clear c7
         try clear c7b0
         try clear c8
         try clear c8b0
         try clear c9
         try clear c9b0
         try clear c10
         try clear c10b0
         try clear c11
         try clear c11b0
         try clear c12
         try clear c14
         try clear c16
         try clear c16b0
         try clear c16b1
         try clear c16b2
         try clear c17
         try clear c17b0
         try clear c17b1
         try clear c17b2
         try clear c18
         try clear c20
         try clear c23
         try clear p24
         try clear q24
         try clear hx24
         try clear c25
         try clear c25b0
         try clear c25b1
         try clear c26
         try clear c26b0
         try clear c26b1
         try clear c27
         try clear c30
         try clear c33
         try clear c34
         try clear hcz13_0
         try clear hcz13_1
         try clear hcz13_2
         try clear hcz13_3
         try clear hcz13_4
         try clear hcz15_0
         try clear hcz15_1
         try clear hcz15_2
         try clear hcz15_3
         try clear hcz15_4
         try clear hcz19_0
         try clear hcz19_1
         try clear hcz19_2
         try clear hcz21_0
         try clear hcz21_1
         try clear hcz21_2
         try clear hcz24_0
         try clear hcz24_1
         try clear hcz24_2
         try clear hcz28_0
         try clear hcz28_1
         try clear hcz28_2
         try clear hcz29_0
         try clear hcz29_1
         try clear hcz29_2
         try clear hcz29_3
         try clear hcz29_4
         try clear hcz31_0
         try clear hcz31_1
         try clear hcz31_2
         try clear hcz32_0
         try clear hcz32_1
         try clear hcz32_2
         try clear hcz32_3
         try clear hcz32_4
         try clear hcz35_0
         try clear hcz35_1
         try clear hcz35_2
         try clear hcz6_0
         try clear hcz6_1
         try clear hcz6_2
         try clear hfz13_0
         try clear hfz13_1
         try clear hfz13_2
         try clear hfz13_3
         try clear hfz13_4
         try clear hfz15_0
         try clear hfz15_1
         try clear hfz15_2
         try clear hfz15_3
         try clear hfz15_4
         try clear hfz19_0
         try clear hfz19_1
         try clear hfz19_2
         try clear hfz21_0
         try clear hfz21_1
         try clear hfz21_2
         try clear hfz24_0
         try clear hfz24_1
         try clear hfz24_2
         try clear hfz28_0
         try clear hfz28_1
         try clear hfz28_2
         try clear hfz29_0
         try clear hfz29_1
         try clear hfz29_2
         try clear hfz29_3
         try clear hfz29_4
         try clear hfz31_0
         try clear hfz31_1
         try clear hfz31_2
         try clear hfz32_0
         try clear hfz32_1
         try clear hfz32_2
         try clear hfz32_3
         try clear hfz32_4
         try clear hfz35_0
         try clear hfz35_1
         try clear hfz35_2
         try clear hfz6_0
         try clear hfz6_1
         try clear hfz6_2
         try clear hx246_0
         try clear p2
         try clear p24
         try clear p246
         try clear p6
         try clear q2
         try clear q24
         try clear q246
         obtain ⟨x67_3, rfl, HA, HK3, BK244, BK245, HB⟩ := hrel
         cases gk with
         | zero => exact absurd HA.out (by simp [step_Fits.l1])
         | succ k3 =>
          have H := HA.out
          clear HA
          simp only [step_Fits.l1] at H
          by_cases c36 : x67_3 < (l1_1.length : Int)
          ·rw [if_pos c36] at H
           have c36b0 : decide (x67_3 < (l1_1.length : Int)) = true := decide_eq_true c36
           clear c36
           by_cases c37 : 0 ≤ x67_3
           ·rw [if_pos c37] at H
            have c37b0 : decide (0 ≤ x67_3) = true := decide_eq_true c37
            clear c37
            by_cases c38 : x67_3 < (l1_1.length : Int)
            ·rw [if_pos c38] at H
             have c38b0 : decide (x67_3 < (l1_1.length : Int)) = true := decide_eq_true c38
             clear c38
             replace H := Option.bind_eq_some_iff.mp H
             obtain ⟨t248, A390, H⟩ := H
             replace H : (if t248 = true then (if x67_3 < (l1_2.length : Int) then ((step_rows.f k3 (rd_L3 l1_2 x67_3) (l1_0.length : Int) a0_1).bind fun t250 => (if t250 = true then (step_Fits.l1 k3 (l1_0.length : Int) l1_1 (l1_1.length : Int) (wrap64 (x67_3 + 1)) a0_0 a0_1 a0_2 a0_3 a0_4 l1_0 l1_1 l1_2) else (some false))) else (none)) else (some false)) = some r := H
             have A39 := Aside0.mk A390
             clear A390
             by_cases c40 : t248 = true
             ·subst c40
              have H1 : (if x67_3 < (l1_2.length : Int) then ((step_rows.f k3 (rd_L3 l1_2 x67_3) (l1_0.length : Int) a0_1).bind fun t250 => (if t250 = true then (step_Fits.l1 k3 (l1_0.length : Int) l1_1 (l1_1.length : Int) (wrap64 (x67_3 + 1)) a0_0 a0_1 a0_2 a0_3 a0_4 l1_0 l1_1 l1_2) else (some false))) else (none)) = some r := by rw [if_pos rfl] at H; exact H
              clear H
              have H := H1
              clear H1
              by_cases c41 : x67_3 < (l1_2.length : Int)
              ·rw [if_pos c41] at H
               have c41b0 : decide (x67_3 < (l1_2.length : Int)) = true := decide_eq_true c41
               clear c41
               replace H := Option.bind_eq_some_iff.mp H
               obtain ⟨t250, A420, H⟩ := H
               replace H : (if t250 = true then (step_Fits.l1 k3 (l1_0.length : Int) l1_1 (l1_1.length : Int) (wrap64 (x67_3 + 1)) a0_0 a0_1 a0_2 a0_3 a0_4 l1_0 l1_1 l1_2) else (some false)) = some r := H
               have A42 := Aside0.mk A420
               clear A420
               by_cases c43 : t250 = true
               ·subst c43
                have H1 : (step_Fits.l1 k3 (l1_0.length : Int) l1_1 (l1_1.length : Int) (wrap64 (x67_3 + 1)) a0_0 a0_1 a0_2 a0_3 a0_4 l1_0 l1_1 l1_2) = some r := by rw [if_pos rfl] at H; exact H
                clear H
                have H := H1
                clear H1
                have H' := Aside0.mk H
                clear H
                have p247 : 0 ≤ (x67_3 : Int) := of_decide_eq_true asm
                have q247 : x67_3 < (l1_1.length : Int) := of_decide_eq_true asm
                obtain ⟨ad247, A247_0, c247_0, e247, hx247_0, hl247_0, hi247_0⟩ := at_L3 HR1_1.out x67_3 p247 q247
                cases e247
                (first | replace hx247_0 := (HB.out.cell (World.block_lt_of_cell? w _ hx247_0)).trans hx247_0 | skip)
                have HR247_0 := Aside0.mk hi247_0
                have HC247_0 := Aside0.mk hl247_0
                clear hi247_0 hl247_0
                replace p247 := eq_true p247
                replace q247 := eq_true q247
                have hnb44 := NB244_245.out
                have hnc44 := NB245_244.out
                obtain ⟨hcz45_0, hcz45_1, hcz45_2, hcz45_3, hcz45_4, hfz45_0, hfz45_1, hfz45_2, hfz45_3, hfz45_4⟩ := cq5 BK244.out
                go_wp2_with (first | (go_at_call 81; (with_reducible refine (step_rows.calls k3 _ _ (rd_L3 l1_1 x67_3) (l1_0.length : Int) a0_1 true _ ?side1 ?side2 A39.out).mono ?_); (case side1 => repeat (first | exact (Kd.C_below HR247_0.out HB.out) | (with_reducible refine Kd.C_alloc ?_ _) | (with_reducible refine Kd.C_drewN ?_ _) | (with_reducible refine Kd.C_drew ?_))); (case side2 => exact HC247_0.out); rintro e w' ⟨rfl, ⟨nd, rfl⟩⟩; (try first | exact ⟨rfl, _, World.drewN_drewN _ _ _⟩ | exact ⟨rfl, _, Eq.trans (World.drewN_drewN _ _ _) (congrArg (World.drewN _) (Nat.add_assoc _ _ _))⟩); obtain ⟨hcz46_0, hcz46_1, hcz46_2, hfz46_0, hfz46_1, hfz46_2⟩ := cq3 BK245.out; have p249 : 0 ≤ (x67_3 : Int) := of_decide_eq_true asm; have q249 : x67_3 < (l1_2.length : Int) := of_decide_eq_true asm; obtain ⟨ad249, A249_0, c249_0, e249, hx249_0, hl249_0, hi249_0⟩ := at_L3 HR1_2.out x67_3 p249 q249; cases e249; (first | replace hx249_0 := (HB.out.cell (World.block_lt_of_cell? w _ hx249_0)).trans hx249_0 | skip); have HR249_0 := Aside0.mk hi249_0; have HC249_0 := Aside0.mk hl249_0; clear hi249_0 hl249_0; replace p249 := eq_true p249; replace q249 := eq_true q249) | (go_at_call 81; (with_reducible refine (step_rows.calls k3 _ _ (rd_L3 l1_2 x67_3) (l1_0.length : Int) a0_1 true _ ?side1 ?side2 A42.out).mono ?_); (case side1 => repeat (first | exact (Kd.C_below HR249_0.out bel) | (with_reducible refine Kd.C_alloc ?_ _) | (with_reducible refine Kd.C_drewN ?_ _) | (with_reducible refine Kd.C_drew ?_))); (case side2 => exact HC249_0.out); rintro e w' ⟨rfl, ⟨nd, rfl⟩⟩; (try first | exact ⟨rfl, _, World.drewN_drewN _ _ _⟩ | exact ⟨rfl, _, Eq.trans (World.drewN_drewN _ _ _) (congrArg (World.drewN _) (Nat.add_assoc _ _ _))⟩)))
                repeat (go_quiet (first | (go_at_call 81; (with_reducible refine (step_rows.calls k3 _ _ (rd_L3 l1_1 x67_3) (l1_0.length : Int) a0_1 true _ ?side1 ?side2 A39.out).mono ?_); (case side1 => repeat (first | exact (Kd.C_below HR247_0.out HB.out) | (with_reducible refine Kd.C_alloc ?_ _) | (with_reducible refine Kd.C_drewN ?_ _) | (with_reducible refine Kd.C_drew ?_))); (case side2 => exact HC247_0.out); rintro e w' ⟨rfl, ⟨nd, rfl⟩⟩; (try first | exact ⟨rfl, _, World.drewN_drewN _ _ _⟩ | exact ⟨rfl, _, Eq.trans (World.drewN_drewN _ _ _) (congrArg (World.drewN _) (Nat.add_assoc _ _ _))⟩); obtain ⟨hcz46_0, hcz46_1, hcz46_2, hfz46_0, hfz46_1, hfz46_2⟩ := cq3 BK245.out; have p249 : 0 ≤ (x67_3 : Int) := of_decide_eq_true asm; have q249 : x67_3 < (l1_2.length : Int) := of_decide_eq_true asm; obtain ⟨ad249, A249_0, c249_0, e249, hx249_0, hl249_0, hi249_0⟩ := at_L3 HR1_2.out x67_3 p249 q249; cases e249; (first | replace hx249_0 := (HB.out.cell (World.block_lt_of_cell? w _ hx249_0)).trans hx249_0 | skip); have HR249_0 := Aside0.mk hi249_0; have HC249_0 := Aside0.mk hl249_0; clear hi249_0 hl249_0; replace p249 := eq_true p249; replace q249 := eq_true q249) | (go_at_call 81; (with_reducible refine (step_rows.calls k3 _ _ (rd_L3 l1_2 x67_3) (l1_0.length : Int) a0_1 true _ ?side1 ?side2 A42.out).mono ?_); (case side1 => repeat (first | exact (Kd.C_below HR249_0.out bel) | (with_reducible refine Kd.C_alloc ?_ _) | (with_reducible refine Kd.C_drewN ?_ _) | (with_reducible refine Kd.C_drew ?_))); (case side2 => exact HC249_0.out); rintro e w' ⟨rfl, ⟨nd, rfl⟩⟩; (try first | exact ⟨rfl, _, World.drewN_drewN _ _ _⟩ | exact ⟨rfl, _, Eq.trans (World.drewN_drewN _ _ _) (congrArg (World.drewN _) (Nat.add_assoc _ _ _))⟩))); try go_wp2_with (first | (go_at_call 81; (with_reducible refine (step_rows.calls k3 _ _ (rd_L3 l1_1 x67_3) (l1_0.length : Int) a0_1 true _ ?side1 ?side2 A39.out).mono ?_); (case side1 => repeat (first | exact (Kd.C_below HR247_0.out HB.out) | (with_reducible refine Kd.C_alloc ?_ _) | (with_reducible refine Kd.C_drewN ?_ _) | (with_reducible refine Kd.C_drew ?_))); (case side2 => exact HC247_0.out); rintro e w' ⟨rfl, ⟨nd, rfl⟩⟩; (try first | exact ⟨rfl, _, World.drewN_drewN _ _ _⟩ | exact ⟨rfl, _, Eq.trans (World.drewN_drewN _ _ _) (congrArg (World.drewN _) (Nat.add_assoc _ _ _))⟩); obtain ⟨hcz46_0, hcz46_1, hcz46_2, hfz46_0, hfz46_1, hfz46_2⟩ := cq3 BK245.out; have p249 : 0 ≤ (x67_3 : Int) := of_decide_eq_true asm; have q249 : x67_3 < (l1_2.length : Int) := of_decide_eq_true asm; obtain ⟨ad249, A249_0, c249_0, e249, hx249_0, hl249_0, hi249_0⟩ := at_L3 HR1_2.out x67_3 p249 q249; cases e249; (first | replace hx249_0 := (HB.out.cell (World.block_lt_of_cell? w _ hx249_0)).trans hx249_0 | skip); have HR249_0 := Aside0.mk hi249_0; have HC249_0 := Aside0.mk hl249_0; clear hi249_0 hl249_0; replace p249 := eq_true p249; replace q249 := eq_true q249) | (go_at_call 81; (with_reducible refine (step_rows.calls k3 _ _ (rd_L3 l1_2 x67_3) (l1_0.length : Int) a0_1 true _ ?side1 ?side2 A42.out).mono ?_); (case side1 => repeat (first | exact (Kd.C_below HR249_0.out bel) | (with_reducible refine Kd.C_alloc ?_ _) | (with_reducible refine Kd.C_drewN ?_ _) | (with_reducible refine Kd.C_drew ?_))); (case side2 => exact HC249_0.out); rintro e w' ⟨rfl, ⟨nd, rfl⟩⟩; (try first | exact ⟨rfl, _, World.drewN_drewN _ _ _⟩ | exact ⟨rfl, _, Eq.trans (World.drewN_drewN _ _ _) (congrArg (World.drewN _) (Nat.add_assoc _ _ _))⟩))))
                go_roundg k3
                case measure => have := HK1.out; have := HJ21.out; have := HK3.out; omega
                case rel => exact ⟨(wrap64 (x67_3 + 1)), rs, H', ⟨by have := HK1.out; have := HJ21.out; have := HK3.out; omega⟩, ⟨by (with_reducible repeat (first | refine blk_drewN ?_ _ | refine blk_drew ?_ | refine blk_alloc ?_ _)); exact BK244.out⟩, ⟨by (with_reducible repeat (first | refine blk_drewN ?_ _ | refine blk_drew ?_ | refine blk_alloc ?_ _)); exact BK245.out⟩, ⟨by repeat (first | (with_reducible first | exact HB.out | apply below_alloc | apply pw_below_drewN | apply below_drew1 | refine below_set ?_ GE244.out | refine below_set ?_ GE245.out) | exact HB.out)⟩⟩
               ·replace c43 := Bool.eq_false_iff.mpr c43
                subst c43
                have H1 : (some false) = some r := by rw [if_neg (show ¬ (false = true) by decide)] at H; exact H
                clear H
                have H := H1
                clear H1
                obtain rfl := Option.some.inj H
                have p247 : 0 ≤ (x67_3 : Int) := of_decide_eq_true asm
                have q247 : x67_3 < (l1_1.length : Int) := of_decide_eq_true asm
                obtain ⟨ad247, A247_0, c247_0, e247, hx247_0, hl247_0, hi247_0⟩ := at_L3 HR1_1.out x67_3 p247 q247
                cases e247
                (first | replace hx247_0 := (HB.out.cell (World.block_lt_of_cell? w _ hx247_0)).trans hx247_0 | skip)
                have HR247_0 := Aside0.mk hi247_0
                have HC247_0 := Aside0.mk hl247_0
                clear hi247_0 hl247_0
                replace p247 := eq_true p247
                replace q247 := eq_true q247
                have hnb47 := NB244_245.out
                have hnc47 := NB245_244.out
                obtain ⟨hcz48_0, hcz48_1, hcz48_2, hcz48_3, hcz48_4, hfz48_0, hfz48_1, hfz48_2, hfz48_3, hfz48_4⟩ := cq5 BK244.out
                go_wp2_with (first | (go_at_call 81; (with_reducible refine (step_rows.calls k3 _ _ (rd_L3 l1_1 x67_3) (l1_0.length : Int) a0_1 true _ ?side1 ?side2 A39.out).mono ?_); (case side1 => repeat (first | exact (Kd.C_below HR247_0.out HB.out) | (with_reducible refine Kd.C_alloc ?_ _) | (with_reducible refine Kd.C_drewN ?_ _) | (with_reducible refine Kd.C_drew ?_))); (case side2 => exact HC247_0.out); rintro e w' ⟨rfl, ⟨nd, rfl⟩⟩; (try first | exact ⟨rfl, _, World.drewN_drewN _ _ _⟩ | exact ⟨rfl, _, Eq.trans (World.drewN_drewN _ _ _) (congrArg (World.drewN _) (Nat.add_assoc _ _ _))⟩); obtain ⟨hcz49_0, hcz49_1, hcz49_2, hfz49_0, hfz49_1, hfz49_2⟩ := cq3 BK245.out; have p249 : 0 ≤ (x67_3 : Int) := of_decide_eq_true asm; have q249 : x67_3 < (l1_2.length : Int) := of_decide_eq_true asm; obtain ⟨ad249, A249_0, c249_0, e249, hx249_0, hl249_0, hi249_0⟩ := at_L3 HR1_2.out x67_3 p249 q249; cases e249; (first | replace hx249_0 := (HB.out.cell (World.block_lt_of_cell? w _ hx249_0)).trans hx249_0 | skip); have HR249_0 := Aside0.mk hi249_0; have HC249_0 := Aside0.mk hl249_0; clear hi249_0 hl249_0; replace p249 := eq_true p249; replace q249 := eq_true q249) | (go_at_call 81; (with_reducible refine (step_rows.calls k3 _ _ (rd_L3 l1_2 x67_3) (l1_0.length : Int) a0_1 false _ ?side1 ?side2 A42.out).mono ?_); (case side1 => repeat (first | exact (Kd.C_below HR249_0.out bel) | (with_reducible refine Kd.C_alloc ?_ _) | (with_reducible refine Kd.C_drewN ?_ _) | (with_reducible refine Kd.C_drew ?_))); (case side2 => exact HC249_0.out); rintro e w' ⟨rfl, ⟨nd, rfl⟩⟩; (try first | exact ⟨rfl, _, World.drewN_drewN _ _ _⟩ | exact ⟨rfl, _, Eq.trans (World.drewN_drewN _ _ _) (congrArg (World.drewN _) (Nat.add_assoc _ _ _))⟩)))
                repeat (go_quiet (first | (go_at_call 81; (with_reducible refine (step_rows.calls k3 _ _ (rd_L3 l1_1 x67_3) (l1_0.length : Int) a0_1 true _ ?side1 ?side2 A39.out).mono ?_); (case side1 => repeat (first | exact (Kd.C_below HR247_0.out HB.out) | (with_reducible refine Kd.C_alloc ?_ _) | (with_reducible refine Kd.C_drewN ?_ _) | (with_reducible refine Kd.C_drew ?_))); (case side2 => exact HC247_0.out); rintro e w' ⟨rfl, ⟨nd, rfl⟩⟩; (try first | exact ⟨rfl, _, World.drewN_drewN _ _ _⟩ | exact ⟨rfl, _, Eq.trans (World.drewN_drewN _ _ _) (congrArg (World.drewN _) (Nat.add_assoc _ _ _))⟩); obtain ⟨hcz49_0, hcz49_1, hcz49_2, hfz49_0, hfz49_1, hfz49_2⟩ := cq3 BK245.out; have p249 : 0 ≤ (x67_3 : Int) := of_decide_eq_true asm; have q249 : x67_3 < (l1_2.length : Int) := of_decide_eq_true asm; obtain ⟨ad249, A249_0, c249_0, e249, hx249_0, hl249_0, hi249_0⟩ := at_L3 HR1_2.out x67_3 p249 q249; cases e249; (first | replace hx249_0 := (HB.out.cell (World.block_lt_of_cell? w _ hx249_0)).trans hx249_0 | skip); have HR249_0 := Aside0.mk hi249_0; have HC249_0 := Aside0.mk hl249_0; clear hi249_0 hl249_0; replace p249 := eq_true p249; replace q249 := eq_true q249) | (go_at_call 81; (with_reducible refine (step_rows.calls k3 _ _ (rd_L3 l1_2 x67_3) (l1_0.length : Int) a0_1 false _ ?side1 ?side2 A42.out).mono ?_); (case side1 => repeat (first | exact (Kd.C_below HR249_0.out bel) | (with_reducible refine Kd.C_alloc ?_ _) | (with_reducible refine Kd.C_drewN ?_ _) | (with_reducible refine Kd.C_drew ?_))); (case side2 => exact HC249_0.out); rintro e w' ⟨rfl, ⟨nd, rfl⟩⟩; (try first | exact ⟨rfl, _, World.drewN_drewN _ _ _⟩ | exact ⟨rfl, _, Eq.trans (World.drewN_drewN _ _ _) (congrArg (World.drewN _) (Nat.add_assoc _ _ _))⟩))); try go_wp2_with (first | (go_at_call 81; (with_reducible refine (step_rows.calls k3 _ _ (rd_L3 l1_1 x67_3) (l1_0.length : Int) a0_1 true _ ?side1 ?side2 A39.out).mono ?_); (case side1 => repeat (first | exact (Kd.C_below HR247_0.out HB.out) | (with_reducible refine Kd.C_alloc ?_ _) | (with_reducible refine Kd.C_drewN ?_ _) | (with_reducible refine Kd.C_drew ?_))); (case side2 => exact HC247_0.out); rintro e w' ⟨rfl, ⟨nd, rfl⟩⟩; (try first | exact ⟨rfl, _, World.drewN_drewN _ _ _⟩ | exact ⟨rfl, _, Eq.trans (World.drewN_drewN _ _ _) (congrArg (World.drewN _) (Nat.add_assoc _ _ _))⟩); obtain ⟨hcz49_0, hcz49_1, hcz49_2, hfz49_0, hfz49_1, hfz49_2⟩ := cq3 BK245.out; have p249 : 0 ≤ (x67_3 : Int) := of_decide_eq_true asm; have q249 : x67_3 < (l1_2.length : Int) := of_decide_eq_true asm; obtain ⟨ad249, A249_0, c249_0, e249, hx249_0, hl249_0, hi249_0⟩ := at_L3 HR1_2.out x67_3 p249 q249; cases e249; (first | replace hx249_0 := (HB.out.cell (World.block_lt_of_cell? w _ hx249_0)).trans hx249_0 | skip); have HR249_0 := Aside0.mk hi249_0; have HC249_0 := Aside0.mk hl249_0; clear hi249_0 hl249_0; replace p249 := eq_true p249; replace q249 := eq_true q249) | (go_at_call 81; (with_reducible refine (step_rows.calls k3 _ _ (rd_L3 l1_2 x67_3) (l1_0.length : Int) a0_1 false _ ?side1 ?side2 A42.out).mono ?_); (case side1 => repeat (first | exact (Kd.C_below HR249_0.out bel) | (with_reducible refine Kd.C_alloc ?_ _) | (with_reducible refine Kd.C_drewN ?_ _) | (with_reducible refine Kd.C_drew ?_))); (case side2 => exact HC249_0.out); rintro e w' ⟨rfl, ⟨nd, rfl⟩⟩; (try first | exact ⟨rfl, _, World.drewN_drewN _ _ _⟩ | exact ⟨rfl, _, Eq.trans (World.drewN_drewN _ _ _) (congrArg (World.drewN _) (Nat.add_assoc _ _ _))⟩))))
                go_ret
                exact ⟨by first | rfl | (simp [errW_none, errW_some] <;> rfl) | (simp [*, errW_none, errW_some] <;> rfl), by repeat (first | (with_reducible first | exact HB.out | apply below_alloc | apply pw_below_drewN | apply below_drew1 | refine below_set ?_ GE244.out | refine below_set ?_ GE245.out) | exact HB.out)⟩
              ·rw [if_neg c41] at H
               exact absurd H (by simp)
             ·replace c40 := Bool.eq_false_iff.mpr c40
              subst c40
              have H1 : (some false) = some r := by rw [if_neg (show ¬ (false = true) by decide)] at H; exact H
              clear H
              have H := H1
              clear H1
              obtain rfl := Option.some.inj H
              have p247 : 0 ≤ (x67_3 : Int) := of_decide_eq_true asm
              have q247 : x67_3 < (l1_1.length : Int) := of_decide_eq_true asm
              obtain ⟨ad247, A247_0, c247_0, e247, hx247_0, hl247_0, hi247_0⟩ := at_L3 HR1_1.out x67_3 p247 q247
              cases e247
              (first | replace hx247_0 := (HB.out.cell (World.block_lt_of_cell? w _ hx247_0)).trans hx247_0 | skip)
              have HR247_0 := Aside0.mk hi247_0
              have HC247_0 := Aside0.mk hl247_0
              clear hi247_0 hl247_0
              replace p247 := eq_true p247
              replace q247 := eq_true q247
              have hnb50 := NB244_245.out
              have hnc50 := NB245_244.out
              obtain ⟨hcz51_0, hcz51_1, hcz51_2, hcz51_3, hcz51_4, hfz51_0, hfz51_1, hfz51_2, hfz51_3, hfz51_4⟩ := cq5 BK244.out
              go_wp2_with (first | (go_at_call 81; (with_reducible refine (step_rows.calls k3 _ _ (rd_L3 l1_1 x67_3) (l1_0.length : Int) a0_1 false _ ?side1 ?side2 A39.out).mono ?_); (case side1 => repeat (first | exact (Kd.C_below HR247_0.out HB.out) | (with_reducible refine Kd.C_alloc ?_ _) | (with_reducible refine Kd.C_drewN ?_ _) | (with_reducible refine Kd.C_drew ?_))); (case side2 => exact HC247_0.out); rintro e w' ⟨rfl, ⟨nd, rfl⟩⟩; (try first | exact ⟨rfl, _, World.drewN_drewN _ _ _⟩ | exact ⟨rfl, _, Eq.trans (World.drewN_drewN _ _ _) (congrArg (World.drewN _) (Nat.add_assoc _ _ _))⟩)))
              repeat (go_quiet (first | (go_at_call 81; (with_reducible refine (step_rows.calls k3 _ _ (rd_L3 l1_1 x67_3) (l1_0.length : Int) a0_1 false _ ?side1 ?side2 A39.out).mono ?_); (case side1 => repeat (first | exact (Kd.C_below HR247_0.out HB.out) | (with_reducible refine Kd.C_alloc ?_ _) | (with_reducible refine Kd.C_drewN ?_ _) | (with_reducible refine Kd.C_drew ?_))); (case side2 => exact HC247_0.out); rintro e w' ⟨rfl, ⟨nd, rfl⟩⟩; (try first | exact ⟨rfl, _, World.drewN_drewN _ _ _⟩ | exact ⟨rfl, _, Eq.trans (World.drewN_drewN _ _ _) (congrArg (World.drewN _) (Nat.add_assoc _ _ _))⟩))); try go_wp2_with (first | (go_at_call 81; (with_reducible refine (step_rows.calls k3 _ _ (rd_L3 l1_1 x67_3) (l1_0.length : Int) a0_1 false _ ?side1 ?side2 A39.out).mono ?_); (case side1 => repeat (first | exact (Kd.C_below HR247_0.out HB.out) | (with_reducible refine Kd.C_alloc ?_ _) | (with_reducible refine Kd.C_drewN ?_ _) | (with_reducible refine Kd.C_drew ?_))); (case side2 => exact HC247_0.out); rintro e w' ⟨rfl, ⟨nd, rfl⟩⟩; (try first | exact ⟨rfl, _, World.drewN_drewN _ _ _⟩ | exact ⟨rfl, _, Eq.trans (World.drewN_drewN _ _ _) (congrArg (World.drewN _) (Nat.add_assoc _ _ _))⟩))))
              go_ret
              exact ⟨by first | rfl | (simp [errW_none, errW_some] <;> rfl) | (simp [*, errW_none, errW_some] <;> rfl), by repeat (first | (with_reducible first | exact HB.out | apply below_alloc | apply pw_below_drewN | apply below_drew1 | refine below_set ?_ GE244.out | refine below_set ?_ GE245.out) | exact HB.out)⟩
            ·rw [if_neg c38] at H
             exact absurd H (by simp)
           ·rw [if_neg c37] at H
            exact absurd H (by simp)
          ·rw [if_neg c36] at H
           have c36b0 : decide (x67_3 < (l1_1.length : Int)) = false := decide_eq_false c36
           clear c36
           obtain rfl := Option.some.inj H
           go_wp2
           repeat (go_quiet (fail); try go_wp2)
           go_ret
           exact ⟨by first | rfl | (simp [errW_none, errW_some] <;> rfl) | (simp [*, errW_none, errW_some] <;> rfl), by repeat (first | (with_reducible first | exact HB.out | apply below_alloc | apply pw_below_drewN | apply below_drew1 | refine below_set ?_ GE244.out | refine below_set ?_ GE245.out) | exact HB.out)⟩

end Go.Proofs.Ytepbebelbcbciaa.Q
