/- Functions of the program as plain Lean functions, each with a proof that the program's call comes to what it says; and rows of statements over them. No condition but those that the theorems name. Written by a program of this session (myprint.py, over the kit's print with patches of its own). -/
import Derived.Test.YtepbebelbcbciaaQx0
namespace Go.Proofs.Ytepbebelbcbciaa.Q
open Go.RowKit Go.Proofs.YtepbebelbcbciaaW.PrintWords Go.Proofs.YtepbebelbcbciaaW.PrintLast Go.Proofs.YtepbebelbcbciaaW.PrintMore
attribute [local go_sem] max2_int min2_int max_two min_two max_three min_three max_four min_four   -- for this text's walks alone
set_option linter.unusedVariables false
set_option linter.unusedSimpArgs false

/-! ### tillerref11_lists: function 46 -/
mutual
def tillerref11_lists.l0 : Nat → ByteArray → Int → Int → Int → List (List (List Int)) → Int → Option ((List (List (List Int))) × ByteArray)
 | 0, _, _, _, _, _, _ => none
 | k + 1, x0, x1, x2, x3, x10, x11 => if x11 < x1 then (tillerref11_lists.l1 k x0 x1 x2 x3 x10 x11 (([] : List (List Int))) 0) else (some (x10, x0))
def tillerref11_lists.l1 : Nat → ByteArray → Int → Int → Int → List (List (List Int)) → Int → List (List Int) → Int → Option ((List (List (List Int))) × ByteArray)
 | 0, _, _, _, _, _, _, _, _ => none
 | k + 1, x0, x1, x2, x3, x10, x11, x12, x13 => if x13 < x2 then (tillerref11_lists.l2 k x0 x1 x2 x3 x10 x11 x12 x13 (([] : List Int)) 0) else (if x10.length < 5864062014805 then (tillerref11_lists.l0 k x0 x1 x2 x3 (x10 ++ [x12]) (wrap64 (x11 + 1))) else (none))
def tillerref11_lists.l2 : Nat → ByteArray → Int → Int → Int → List (List (List Int)) → Int → List (List Int) → Int → List Int → Int → Option ((List (List (List Int))) × ByteArray)
 | 0, _, _, _, _, _, _, _, _, _, _ => none
 | k + 1, x0, x1, x2, x3, x10, x11, x12, x13, x14, x15 => if x15 < x3 then (tillerref11_lists.l3 k x0 x1 x2 x3 x10 x11 x12 x13 x14 x15 0 0) else (if x12.length < 5864062014805 then (tillerref11_lists.l1 k x0 x1 x2 x3 x10 x11 (x12 ++ [x14]) (wrap64 (x13 + 1))) else (none))
def tillerref11_lists.l3 : Nat → ByteArray → Int → Int → Int → List (List (List Int)) → Int → List (List Int) → Int → List Int → Int → Int → Int → Option ((List (List (List Int))) × ByteArray)
 | 0, _, _, _, _, _, _, _, _, _, _, _, _ => none
 | k + 1, x0, x1, x2, x3, x10, x11, x12, x13, x14, x15, x16, x17 => if x17 < 4 then (if 0 ≤ x17 then (if x17 < (x0.size : Int) then (tillerref11_lists.l3 k x0 x1 x2 x3 x10 x11 x12 x13 x14 x15 ((((256 * x16) % 4294967296) + ((bt x0 x17) % 4294967296)) % 4294967296) (wrap64 (x17 + 1))) else (none)) else (none)) else (if 4 ≤ (x0.size : Int) then (if x14.length < 35184372088832 then (tillerref11_lists.l2 k (x0.extract 4 x0.size) x1 x2 x3 x10 x11 x12 x13 (x14 ++ [wrap32 (x16)]) (wrap64 (x15 + 1))) else (none)) else (none))
end
def tillerref11_lists.f (k : Nat) (a0 : ByteArray) (a1 : Int) (a2 : Int) (a3 : Int) : Option ((List (List (List Int))) × ByteArray) := tillerref11_lists.l0 k a0 a1 a2 a3 (([] : List (List (List Int)))) 0
theorem tillerref11_lists.mono_l : ∀ k, (∀ y0 y1 y2 y3 y4 y5, LeO (tillerref11_lists.l0 k y0 y1 y2 y3 y4 y5) (tillerref11_lists.l0 (k + 1) y0 y1 y2 y3 y4 y5)) ∧ (∀ y0 y1 y2 y3 y4 y5 y6 y7, LeO (tillerref11_lists.l1 k y0 y1 y2 y3 y4 y5 y6 y7) (tillerref11_lists.l1 (k + 1) y0 y1 y2 y3 y4 y5 y6 y7)) ∧ (∀ y0 y1 y2 y3 y4 y5 y6 y7 y8 y9, LeO (tillerref11_lists.l2 k y0 y1 y2 y3 y4 y5 y6 y7 y8 y9) (tillerref11_lists.l2 (k + 1) y0 y1 y2 y3 y4 y5 y6 y7 y8 y9)) ∧ (∀ y0 y1 y2 y3 y4 y5 y6 y7 y8 y9 y10 y11, LeO (tillerref11_lists.l3 k y0 y1 y2 y3 y4 y5 y6 y7 y8 y9 y10 y11) (tillerref11_lists.l3 (k + 1) y0 y1 y2 y3 y4 y5 y6 y7 y8 y9 y10 y11))
 | 0 => ⟨fun _ _ _ _ _ _ r h => by simp [tillerref11_lists.l0] at h, fun _ _ _ _ _ _ _ _ r h => by simp [tillerref11_lists.l1] at h, fun _ _ _ _ _ _ _ _ _ _ r h => by simp [tillerref11_lists.l2] at h, fun _ _ _ _ _ _ _ _ _ _ _ _ r h => by simp [tillerref11_lists.l3] at h⟩
 | k + 1 => by
  obtain ⟨ih0, ih1, ih2, ih3⟩ := tillerref11_lists.mono_l k
  refine ⟨?_, ?_, ?_, ?_⟩
  ·intro y0 y1 y2 y3 y4 y5
   unfold tillerref11_lists.l0
   repeat' first
   | (with_reducible exact ih0 _ _ _ _ _ _)
   | (with_reducible exact ih1 _ _ _ _ _ _ _ _)
   | (with_reducible exact ih2 _ _ _ _ _ _ _ _ _ _)
   | (with_reducible exact ih3 _ _ _ _ _ _ _ _ _ _ _ _)
   | (with_reducible exact LeO.refl _)
   | (with_reducible exact LeO.none _)
   | (with_reducible refine LeO.ite ?_ ?_)
   | (with_reducible refine LeO.bind ?_ (fun _ => ?_))
   | exact ih0 _ _ _ _ _ _
   | exact ih1 _ _ _ _ _ _ _ _
   | exact ih2 _ _ _ _ _ _ _ _ _ _
   | exact ih3 _ _ _ _ _ _ _ _ _ _ _ _
   | exact LeO.none _
   | refine LeO.ite ?_ ?_
   | refine LeO.bind ?_ (fun _ => ?_)
  ·intro y0 y1 y2 y3 y4 y5 y6 y7
   unfold tillerref11_lists.l1
   repeat' first
   | (with_reducible exact ih0 _ _ _ _ _ _)
   | (with_reducible exact ih1 _ _ _ _ _ _ _ _)
   | (with_reducible exact ih2 _ _ _ _ _ _ _ _ _ _)
   | (with_reducible exact ih3 _ _ _ _ _ _ _ _ _ _ _ _)
   | (with_reducible exact LeO.refl _)
   | (with_reducible exact LeO.none _)
   | (with_reducible refine LeO.ite ?_ ?_)
   | (with_reducible refine LeO.bind ?_ (fun _ => ?_))
   | exact ih0 _ _ _ _ _ _
   | exact ih1 _ _ _ _ _ _ _ _
   | exact ih2 _ _ _ _ _ _ _ _ _ _
   | exact ih3 _ _ _ _ _ _ _ _ _ _ _ _
   | exact LeO.none _
   | refine LeO.ite ?_ ?_
   | refine LeO.bind ?_ (fun _ => ?_)
  ·intro y0 y1 y2 y3 y4 y5 y6 y7 y8 y9
   unfold tillerref11_lists.l2
   repeat' first
   | (with_reducible exact ih0 _ _ _ _ _ _)
   | (with_reducible exact ih1 _ _ _ _ _ _ _ _)
   | (with_reducible exact ih2 _ _ _ _ _ _ _ _ _ _)
   | (with_reducible exact ih3 _ _ _ _ _ _ _ _ _ _ _ _)
   | (with_reducible exact LeO.refl _)
   | (with_reducible exact LeO.none _)
   | (with_reducible refine LeO.ite ?_ ?_)
   | (with_reducible refine LeO.bind ?_ (fun _ => ?_))
   | exact ih0 _ _ _ _ _ _
   | exact ih1 _ _ _ _ _ _ _ _
   | exact ih2 _ _ _ _ _ _ _ _ _ _
   | exact ih3 _ _ _ _ _ _ _ _ _ _ _ _
   | exact LeO.none _
   | refine LeO.ite ?_ ?_
   | refine LeO.bind ?_ (fun _ => ?_)
  ·intro y0 y1 y2 y3 y4 y5 y6 y7 y8 y9 y10 y11
   unfold tillerref11_lists.l3
   repeat' first
   | (with_reducible exact ih0 _ _ _ _ _ _)
   | (with_reducible exact ih1 _ _ _ _ _ _ _ _)
   | (with_reducible exact ih2 _ _ _ _ _ _ _ _ _ _)
   | (with_reducible exact ih3 _ _ _ _ _ _ _ _ _ _ _ _)
   | (with_reducible exact LeO.refl _)
   | (with_reducible exact LeO.none _)
   | (with_reducible refine LeO.ite ?_ ?_)
   | (with_reducible refine LeO.bind ?_ (fun _ => ?_))
   | exact ih0 _ _ _ _ _ _
   | exact ih1 _ _ _ _ _ _ _ _
   | exact ih2 _ _ _ _ _ _ _ _ _ _
   | exact ih3 _ _ _ _ _ _ _ _ _ _ _ _
   | exact LeO.none _
   | refine LeO.ite ?_ ?_
   | refine LeO.bind ?_ (fun _ => ?_)
theorem tillerref11_lists.mono : ∀ a0 a1 a2 a3 k, LeO (tillerref11_lists.f k a0 a1 a2 a3) (tillerref11_lists.f (k + 1) a0 a1 a2 a3) := by
 intro a0 a1 a2 a3 k
 obtain ⟨ih0, ih1, ih2, ih3⟩ := tillerref11_lists.mono_l k
 unfold tillerref11_lists.f
 repeat' first
   | (with_reducible exact ih0 _ _ _ _ _ _)
   | (with_reducible exact ih1 _ _ _ _ _ _ _ _)
   | (with_reducible exact ih2 _ _ _ _ _ _ _ _ _ _)
   | (with_reducible exact ih3 _ _ _ _ _ _ _ _ _ _ _ _)
   | (with_reducible exact LeO.refl _)
   | (with_reducible exact LeO.none _)
   | (with_reducible refine LeO.ite ?_ ?_)
   | (with_reducible refine LeO.bind ?_ (fun _ => ?_))
   | exact ih0 _ _ _ _ _ _
   | exact ih1 _ _ _ _ _ _ _ _
   | exact ih2 _ _ _ _ _ _ _ _ _ _
   | exact ih3 _ _ _ _ _ _ _ _ _ _ _ _
   | exact LeO.none _
   | refine LeO.ite ?_ ?_
   | refine LeO.bind ?_ (fun _ => ?_)
set_option maxHeartbeats 8000000 in
set_option maxRecDepth 100000 in
theorem tillerref11_lists.calls (k : Nat) (a0 : ByteArray) (a1 : Int) (a2 : Int) (a3 : Int) (r1 : List (List (List Int))) (r2 : ByteArray) (w : World) (h : tillerref11_lists.f k a0 a1 a2 a3 = some (r1, r2)) :
  Calls Try.prog 46 #[.string a0, .int .i64 a1, .int .i64 a2, .int .i64 a3] w fun e w' => ∃ v0_ : Value, e = .returned (.tuple #[v0_, .string r2]) ∧ Kd.R (Kd.slice 61 (Kd.slice 72 (Kd.int .i32))) 62 w' w.heap.size (fun _ => True) v0_ r1 ∧ Below w.heap.size w w' := by
 have HB := Aside0.mk (Below.refl w.heap.size w)
 have H : (tillerref11_lists.l0 k a0 a1 a2 a3 (([] : List (List (List Int)))) 0) = some (r1, r2) := h
 clear h
 obtain ⟨y401, hy401⟩ : ∃ y_ : List (List (List Int)), y_ = (([] : List (List (List Int)))) := ⟨_, rfl⟩
 replace H : (tillerref11_lists.l0 k a0 a1 a2 a3 y401 0) = some (r1, r2) := by first | (rw [hy401]; with_reducible exact H) | (have H2_ := (Option.bind_some _ _).symm.trans H; rw [hy401]; with_reducible exact H2_) | (have H2_ := (Option.bind_some _ _).symm.trans H; with_reducible exact H2_) | with_reducible exact H | (rw [hy401]; exact H) | exact H
 have Ny401 := Aside0.mk hy401
 clear hy401
 have H' := Aside0.mk H
 clear H
 go_enter Try.func46, Try.ntmps46
 go_wp2_with (first | ((with_reducible refine gate_dst (N := 18) rfl ?_); refine Kd.R_lit (Kd.slice 61 (Kd.slice 72 (Kd.int .i32))) _ 62 ?hg (N := 18) ?hd (xs := ([] : List (List (List Int)))) (inner := []) (ok := fun _ => True) (okp := fun _ => True) ?hr ?hp (fun _ hk => hk) trivial (Below.refl _ _) (Nat.le_refl _) (by simp) ?_; (case hd => rfl); (case hg => rfl); (case hr => first | (go_simp; done) | (go_simp; rfl)); (case hp => exact (Reps.none _ _)); intro v402 w5 ho6 hb hg_ hnew_; clear hg_ hnew_; (first | rw [← Ny401.out] at ho6 | (simp only [Int.reduceToNat] at ho6; rw [← Ny401.out] at ho6)); have n0_ := Aside0.mk (Kd.R_lower ho6 (below_size bel)); have n1_ := Aside0.mk (below_step bel hb); clear HB; have HO403 := n0_; have HB := n1_; clear n0_ n1_; clear hb ho6))
 go_loopg [0, 10, 11] k (fun kq v0 v10 v11 w' => ∃ (x0_1 : ByteArray) (x10_1 : List (List (List Int))) (x11_1 : Int), v0 = .string x0_1 ∧ v11 = .int .i64 x11_1 ∧ Aside0 (tillerref11_lists.l0 kq x0_1 a1 a2 a3 x10_1 x11_1 = some (r1, r2)) ∧ Aside0 (kq ≤ k) ∧ Aside0 (Kd.R (Kd.slice 61 (Kd.slice 72 (Kd.int .i32))) 62 w' w.heap.size (fun _ => True) v10 x10_1) ∧ Aside0 (Below w.heap.size w w'))
 case atStart => exact ⟨(a0), (y401), (0), rs, rs, H', ⟨Nat.le_refl _⟩, ⟨by (with_reducible repeat (first | apply Kd.R_alloc | apply Kd.R_drewN | apply Kd.R_drew)); exact HO403.out⟩, ⟨by repeat (first | (with_reducible first | exact HB.out | apply below_alloc | apply pw_below_drewN | apply below_drew1) | exact HB.out)⟩⟩
 case round =>
  clear H'
  try clear p2
  try clear c4
  obtain ⟨x0_1, x10_1, x11_1, rfl, rfl, HA, HK1, HO_10, HB⟩ := hrel
  cases gk with
  | zero => exact absurd HA.out (by simp [tillerref11_lists.l0])
  | succ k1 =>
   have H := HA.out
   clear HA
   simp only [tillerref11_lists.l0] at H
   by_cases c7 : x11_1 < a1
   ·rw [if_pos c7] at H
    have c7b0 : decide (x11_1 < a1) = true := decide_eq_true c7
    clear c7
    obtain ⟨y404, hy404⟩ : ∃ y_ : List (List Int), y_ = (([] : List (List Int))) := ⟨_, rfl⟩
    replace H : (tillerref11_lists.l1 k1 x0_1 a1 a2 a3 x10_1 x11_1 y404 0) = some (r1, r2) := by first | (rw [hy404]; with_reducible exact H) | (have H2_ := (Option.bind_some _ _).symm.trans H; rw [hy404]; with_reducible exact H2_) | (have H2_ := (Option.bind_some _ _).symm.trans H; with_reducible exact H2_) | with_reducible exact H | (rw [hy404]; exact H) | exact H
    have Ny404 := Aside0.mk hy404
    clear hy404
    have H' := Aside0.mk H
    clear H
    go_wp2_with (first | ((with_reducible refine gate_dst (N := 24) rfl ?_); refine Kd.S_lit (Kd.slice 72 (Kd.int .i32)) _ 61 ?hg (N := 24) ?hd (xs := ([] : List (List Int))) (inner := []) (ok := fun _ => True) (okp := fun _ => True) ?hr ?hp (fun _ hk => hk) trivial (Below.refl _ _) (Nat.le_refl _) (by simp) ?_; (case hd => rfl); (case hg => rfl); (case hr => first | (go_simp; done) | (go_simp; rfl)); (case hp => exact (Reps.none _ _)); intro v405 w8 ho9 hb hg_ hnew_; clear hg_ hnew_; (first | rw [← Ny404.out] at ho9 | (simp only [Int.reduceToNat] at ho9; rw [← Ny404.out] at ho9)); have n0_ := Aside0.mk (Kd.R_elder' (rr HO_10.out) (Kd.S_base ho9) hb); have n1_ := Aside0.mk (Kd.S_lower ho9 (below_size bel)); have n2_ := Aside0.mk (below_step bel hb); clear HO_10; clear HB; have HO_10 := n0_; have HO406 := n1_; have HB := n2_; clear n0_ n1_ n2_; clear hb ho9))
    go_loopg [0, 12, 13] k1 (fun kq v0 v12 v13 w' => ∃ (x0_2 : ByteArray) (x12_2 : List (List Int)) (x13_2 : Int), v0 = .string x0_2 ∧ v13 = .int .i64 x13_2 ∧ Aside0 (tillerref11_lists.l1 kq x0_2 a1 a2 a3 x10_1 x11_1 x12_2 x13_2 = some (r1, r2)) ∧ Aside0 (kq ≤ k1) ∧ Aside0 (Kd.R (Kd.slice 61 (Kd.slice 72 (Kd.int .i32))) 62 w' w.heap.size (fun k_ => some k_ ≠ (v12 : Value).ownBlock) u10 x10_1) ∧ Aside0 (Kd.S (Kd.slice 72 (Kd.int .i32)) 61 w' w.heap.size (fun _ => True) v12 x12_2) ∧ Aside0 (Below w.heap.size w w'))
    case atStart => exact ⟨(x0_1), (y404), (0), rs, rs, H', ⟨Nat.le_refl _⟩, ⟨by (with_reducible repeat (first | apply Kd.R_alloc | apply Kd.R_drewN | apply Kd.R_drew)); exact Kd.R_mono HO_10.out (fun _ hk => hk.2)⟩, ⟨by (with_reducible repeat (first | apply Kd.S_alloc | apply Kd.S_drewN | apply Kd.S_drew)); exact HO406.out⟩, ⟨by repeat (first | (with_reducible first | exact HB.out | apply below_alloc | apply pw_below_drewN | apply below_drew1) | exact HB.out)⟩⟩
    case round =>
     clear H'
     try clear p2
     try clear c4
     try clear c7
     try clear c7b0
     try clear p2
     obtain ⟨x0_2, x12_2, x13_2, rfl, rfl, HA, HK2, HO_10, HO_12, HB⟩ := hrel
     cases gk with
     | zero => exact absurd HA.out (by simp [tillerref11_lists.l1])
     | succ k2 =>
      have H := HA.out
      clear HA
      simp only [tillerref11_lists.l1] at H
      by_cases c10 : x13_2 < a2
      ·rw [if_pos c10] at H
       have c10b0 : decide (x13_2 < a2) = true := decide_eq_true c10
       clear c10
       obtain ⟨y410, hy410⟩ : ∃ y_ : List Int, y_ = (([] : List Int)) := ⟨_, rfl⟩
       replace H : (tillerref11_lists.l2 k2 x0_2 a1 a2 a3 x10_1 x11_1 x12_2 x13_2 y410 0) = some (r1, r2) := by first | (rw [hy410]; with_reducible exact H) | (have H2_ := (Option.bind_some _ _).symm.trans H; rw [hy410]; with_reducible exact H2_) | (have H2_ := (Option.bind_some _ _).symm.trans H; with_reducible exact H2_) | with_reducible exact H | (rw [hy410]; exact H) | exact H
       have Ny410 := Aside0.mk hy410
       clear hy410
       have H' := Aside0.mk H
       clear H
       go_wp2_with (first | ((with_reducible refine gate_dst (N := 30) rfl ?_); refine Kd.R_lit (Kd.int .i32) _ 72 ?hg (N := 30) ?hd (xs := ([] : List Int)) (inner := []) (ok := fun _ => True) (okp := fun _ => True) ?hr ?hp (fun _ hk => hk) trivial (Below.refl _ _) (Nat.le_refl _) (by simp) ?_; (case hd => rfl); (case hg => rfl); (case hr => first | (go_simp; done) | (go_simp; rfl)); (case hp => exact (Reps.none _ _)); intro v411 w11 ho12 hb hg_ hnew_; clear hg_ hnew_; (first | rw [← Ny410.out] at ho12 | (simp only [Int.reduceToNat] at ho12; rw [← Ny410.out] at ho12)); have n0_ := Aside0.mk (Kd.R_elder' (rr HO_10.out) (Kd.R_base ho12) hb); have n1_ := Aside0.mk (Kd.S_elder' (by (with_reducible repeat (first | apply Kd.S_alloc | apply Kd.S_drewN | apply Kd.S_drew)); exact HO_12.out) (Kd.R_base ho12) hb); have n2_ := Aside0.mk (Kd.R_lower ho12 (below_size bel)); have n3_ := Aside0.mk (below_step bel hb); clear HO_10; clear HO_12; clear HB; have HO_10 := n0_; have HO_12 := n1_; have HO412 := n2_; have HB := n3_; clear n0_ n1_ n2_ n3_; clear hb ho12))
       go_loopg [0, 14, 15] k2 (fun kq v0 v14 v15 w' => ∃ (x0_3 : ByteArray) (x14_3 : List Int) (x15_3 : Int), v0 = .string x0_3 ∧ v15 = .int .i64 x15_3 ∧ Aside0 (tillerref11_lists.l2 kq x0_3 a1 a2 a3 x10_1 x11_1 x12_2 x13_2 x14_3 x15_3 = some (r1, r2)) ∧ Aside0 (kq ≤ k2) ∧ Aside0 (Kd.R (Kd.slice 61 (Kd.slice 72 (Kd.int .i32))) 62 w' w.heap.size (fun k_ => some k_ ≠ (u12 : Value).ownBlock ∧ some k_ ≠ (v14 : Value).ownBlock) u10 x10_1) ∧ Aside0 (Kd.S (Kd.slice 72 (Kd.int .i32)) 61 w' w.heap.size (fun k_ => some k_ ≠ (v14 : Value).ownBlock) u12 x12_2) ∧ Aside0 (Kd.R (Kd.int .i32) 72 w' w.heap.size (fun _ => True) v14 x14_3) ∧ Aside0 (Below w.heap.size w w'))
       case atStart => exact ⟨(x0_2), (y410), (0), rs, rs, H', ⟨Nat.le_refl _⟩, ⟨by (with_reducible repeat (first | apply Kd.R_alloc | apply Kd.R_drewN | apply Kd.R_drew)); exact HO_10.out⟩, ⟨by (with_reducible repeat (first | apply Kd.S_alloc | apply Kd.S_drewN | apply Kd.S_drew)); exact Kd.S_mono HO_12.out (fun _ hk => hk.2)⟩, ⟨by (with_reducible repeat (first | apply Kd.R_alloc | apply Kd.R_drewN | apply Kd.R_drew)); exact HO412.out⟩, ⟨by repeat (first | (with_reducible first | exact HB.out | apply below_alloc | apply pw_below_drewN | apply below_drew1) | exact HB.out)⟩⟩
       case round =>
        clear H'
        try clear c1
        try clear p2
        try clear c4
        try clear c7
        try clear c7b0
        try clear c10
        try clear c10b0
        try clear p2
        obtain ⟨x0_3, x14_3, x15_3, rfl, rfl, HA, HK3, HO_10, HO_12, HO_14, HB⟩ := hrel
        cases gk with
        | zero => exact absurd HA.out (by simp [tillerref11_lists.l2])
        | succ k3 =>
         have H := HA.out
         clear HA
         simp only [tillerref11_lists.l2] at H
         by_cases c13 : x15_3 < a3
         ·rw [if_pos c13] at H
          have c13b0 : decide (x15_3 < a3) = true := decide_eq_true c13
          clear c13
          have H' := Aside0.mk H
          clear H
          go_wp2
          go_loopg [16, 17] k3 (fun kq v16 v17 w' => ∃ (x16_4 : Int) (x17_4 : Int), v16 = .int .u32 x16_4 ∧ v17 = .int .i64 x17_4 ∧ Aside0 (tillerref11_lists.l3 kq x0_3 a1 a2 a3 x10_1 x11_1 x12_2 x13_2 x14_3 x15_3 x16_4 x17_4 = some (r1, r2)) ∧ Aside0 (kq ≤ k3) ∧ Aside0 (Kd.R (Kd.slice 61 (Kd.slice 72 (Kd.int .i32))) 62 w' w.heap.size (fun k_ => some k_ ≠ (u12 : Value).ownBlock ∧ some k_ ≠ (u14 : Value).ownBlock) u10 x10_1) ∧ Aside0 (Kd.S (Kd.slice 72 (Kd.int .i32)) 61 w' w.heap.size (fun k_ => some k_ ≠ (u14 : Value).ownBlock) u12 x12_2) ∧ Aside0 (Kd.R (Kd.int .i32) 72 w' w.heap.size (fun _ => True) u14 x14_3) ∧ Aside0 (Below w.heap.size w w'))
          case atStart => exact ⟨(0), (0), rs, rs, H', ⟨Nat.le_refl _⟩, ⟨by (with_reducible repeat (first | apply Kd.R_alloc | apply Kd.R_drewN | apply Kd.R_drew)); exact HO_10.out⟩, ⟨by (with_reducible repeat (first | apply Kd.S_alloc | apply Kd.S_drewN | apply Kd.S_drew)); exact HO_12.out⟩, ⟨by (with_reducible repeat (first | apply Kd.R_alloc | apply Kd.R_drewN | apply Kd.R_drew)); exact HO_14.out⟩, ⟨by repeat (first | (with_reducible first | exact HB.out | apply below_alloc | apply pw_below_drewN | apply below_drew1) | exact HB.out)⟩⟩
          case round =>
           clear H'
           try clear c1
           try clear p2
           try clear c4
           try clear c7
           try clear c7b0
           try clear c10
           try clear c10b0
           try clear c13
           try clear c13b0
           try clear p2
           obtain ⟨x16_4, x17_4, rfl, rfl, HA, HK4, HO_10, HO_12, HO_14, HB⟩ := hrel
           cases gk with
           | zero => exact absurd HA.out (by simp [tillerref11_lists.l3])
           | succ k4 =>
            have H := HA.out
            clear HA
            simp only [tillerref11_lists.l3] at H
            by_cases c14 : x17_4 < 4
            ·rw [if_pos c14] at H
             have c14b0 : decide (x17_4 < 4) = true := decide_eq_true c14
             clear c14
             by_cases c15 : 0 ≤ x17_4
             ·rw [if_pos c15] at H
              have c15b0 : decide (0 ≤ x17_4) = true := decide_eq_true c15
              clear c15
              by_cases c16 : x17_4 < (x0_3.size : Int)
              ·rw [if_pos c16] at H
               have c16b0 : decide (x17_4 < (x0_3.size : Int)) = true := decide_eq_true c16
               clear c16
               have H' := Aside0.mk H
               clear H
               have p17 : 0 ≤ (x17_4 : Int) := of_decide_eq_true asm
               have q17 : x17_4 < (x0_3.size : Int) := of_decide_eq_true asm
               have hx17 := bt_at x0_3 x17_4
               replace p17 := eq_true p17
               replace q17 := eq_true q17
               go_wp2
               go_roundg k4
               case measure => have := HK1.out; have := HK2.out; have := HK3.out; have := HK4.out; omega
               case rel => exact ⟨((((256 * x16_4) % 4294967296) + ((bt x0_3 x17_4) % 4294967296)) % 4294967296), (wrap64 (x17_4 + 1)), rs, rs, H', ⟨by have := HK1.out; have := HK2.out; have := HK3.out; have := HK4.out; omega⟩, ⟨by (with_reducible repeat (first | apply Kd.R_alloc | apply Kd.R_drewN | apply Kd.R_drew)); exact HO_10.out⟩, ⟨by (with_reducible repeat (first | apply Kd.S_alloc | apply Kd.S_drewN | apply Kd.S_drew)); exact HO_12.out⟩, ⟨by (with_reducible repeat (first | apply Kd.R_alloc | apply Kd.R_drewN | apply Kd.R_drew)); exact HO_14.out⟩, ⟨by repeat (first | (with_reducible first | exact HB.out | apply below_alloc | apply pw_below_drewN | apply below_drew1) | exact HB.out)⟩⟩
              ·rw [if_neg c16] at H
               exact absurd H (by simp)
             ·rw [if_neg c15] at H
              exact absurd H (by simp)
            ·rw [if_neg c14] at H
             have c14b0 : decide (x17_4 < 4) = false := decide_eq_false c14
             clear c14
             by_cases c18 : 4 ≤ (x0_3.size : Int)
             ·rw [if_pos c18] at H
              have c18b0 := eq_true c18
              have c18b1 : decide (4 ≤ (x0_3.size : Int)) = true := decide_eq_true c18
              clear c18
              by_cases c19 : x14_3.length < 35184372088832
              ·rw [if_pos c19] at H
               have LMc19 := Aside0.mk c19
               clear c19
               obtain ⟨y416, hy416⟩ : ∃ y_ : List Int, y_ = (x14_3 ++ [wrap32 (x16_4)]) := ⟨_, rfl⟩
               replace H : (tillerref11_lists.l2 k4 (x0_3.extract 4 x0_3.size) a1 a2 a3 x10_1 x11_1 x12_2 x13_2 y416 (wrap64 (x15_3 + 1))) = some (r1, r2) := by first | (rw [hy416]; with_reducible exact H) | (have H2_ := (Option.bind_some _ _).symm.trans H; rw [hy416]; with_reducible exact H2_) | (have H2_ := (Option.bind_some _ _).symm.trans H; with_reducible exact H2_) | with_reducible exact H | (rw [hy416]; exact H) | exact H
               have Ny416 := Aside0.mk hy416
               clear hy416
               have H' := Aside0.mk H
               clear H
               go_wp2_with (first | ((with_reducible refine gate_builtin (b := .append) (xs := #[.tmp 49, .tmp 52]) rfl ?_); at_builtin; refine Kd.R_append (Kd.int .i32) (w0 := w) w.heap.size rfl (.tmp 49) (.tmp 52) 61 72 (.int .i32 0) 4 rfl Try.underlying61 info72 rfl (by decide) (by omega) u14 x14_3 (wrap32 (x16_4)) [.int .i32 (wrap32 (x16_4))] (fun _ => True) (fun _ => False) rfl rfl ?aP (fun _ hk => hk.elim) ?aF ?aO ?aB ?aS ?aL ?_; (case aP => exact rfl); (case aB => exact bel); (case aF => exact (fun _ _ => trivial)); (case aO => exact (rr HO_14.out)); (case aS => exact (below_size bel)); (case aL => have := LMc19.out; omega); intro v417 w20 ho hb hg hat; rw [← Ny416.out] at ho; have n0_ := Aside0.mk (Kd.R_after (ok := (fun k_ => some k_ ≠ (u12 : Value).ownBlock)) (rr HO_10.out) hg hat); have n1_ := Aside0.mk (Kd.S_after (ok := (fun _ => True)) (by (with_reducible repeat (first | apply Kd.S_alloc | apply Kd.S_drewN | apply Kd.S_drew)); exact Kd.S_mono HO_12.out (fun _ hk => ⟨trivial, hk⟩)) hg hat); have n2_ := Aside0.mk (hb); have n3_ := Aside0.mk (ho); clear HO_10; clear HO_12; clear HB; clear HO_14; have HO_10 := n0_; have HO_12 := n1_; have HB := n2_; have HO418 := n3_; clear n0_ n1_ n2_ n3_; clear ho hb hg hat))
               go_roundg k4
               case measure => have := HK1.out; have := HK2.out; have := HK3.out; have := HK4.out; omega
               case rel => exact ⟨(x0_3.extract 4 x0_3.size), (y416), (wrap64 (x15_3 + 1)), rs, rs, H', ⟨by have := HK1.out; have := HK2.out; have := HK3.out; have := HK4.out; omega⟩, ⟨by (with_reducible repeat (first | apply Kd.R_alloc | apply Kd.R_drewN | apply Kd.R_drew)); exact HO_10.out⟩, ⟨by (with_reducible repeat (first | apply Kd.S_alloc | apply Kd.S_drewN | apply Kd.S_drew)); exact Kd.S_mono HO_12.out (fun _ hk => hk.2)⟩, ⟨by (with_reducible repeat (first | apply Kd.R_alloc | apply Kd.R_drewN | apply Kd.R_drew)); exact HO418.out⟩, ⟨by repeat (first | (with_reducible first | exact HB.out | apply below_alloc | apply pw_below_drewN | apply below_drew1) | exact HB.out)⟩⟩
              ·rw [if_neg c19] at H
               exact absurd H (by simp)
             ·rw [if_neg c18] at H
              exact absurd H (by simp)
         ·rw [if_neg c13] at H
          have c13b0 : decide (x15_3 < a3) = false := decide_eq_false c13
          clear c13
          by_cases c21 : x12_2.length < 5864062014805
          ·rw [if_pos c21] at H
           have LMc21 := Aside0.mk c21
           clear c21
           obtain ⟨y413, hy413⟩ : ∃ y_ : List (List Int), y_ = (x12_2 ++ [x14_3]) := ⟨_, rfl⟩
           replace H : (tillerref11_lists.l1 k3 x0_3 a1 a2 a3 x10_1 x11_1 y413 (wrap64 (x13_2 + 1))) = some (r1, r2) := by first | (rw [hy413]; with_reducible exact H) | (have H2_ := (Option.bind_some _ _).symm.trans H; rw [hy413]; with_reducible exact H2_) | (have H2_ := (Option.bind_some _ _).symm.trans H; with_reducible exact H2_) | with_reducible exact H | (rw [hy413]; exact H) | exact H
           have Ny413 := Aside0.mk hy413
           clear hy413
           have H' := Aside0.mk H
           clear H
           obtain ⟨Ao23, co23, eo23⟩ := Kd.R_slice HO_14.out
           subst eo23
           go_wp2_with (first | ((with_reducible refine gate_builtin (b := .append) (xs := #[.tmp 54, .tmp 56]) rfl ?_); at_builtin; refine Kd.S_append (Kd.slice 72 (Kd.int .i32)) (w0 := w) w.heap.size rfl (.tmp 54) (.tmp 56) 62 61 (.slice none 0 0) 24 rfl Try.underlying62 info61 rfl (by decide) (by omega) u12 x12_2 x14_3 [.slice Ao23 x14_3.length co23] (fun _ => True) (fun k_ => some k_ = (.slice Ao23 x14_3.length co23 : Value).ownBlock) rfl rfl ?aP (fun k_ hk_ => ((Kd.R_mono (ok' := fun k_ => ((fun _ => True)) k_ ∧ some k_ ≠ (u12 : Value).ownBlock) (Kd.R_apart' (HO_14.out) (Kd.S_typed HO_12.out) (by decide)) (fun k_ hk => ⟨trivial, hk.2⟩))).1 k_ hk_.symm) ?aF ?aO ?aB ?aS ?aL ?_; (case aP => exact Kd.M_row (Kd.R_mono (Kd.R_tight rfl (Kd.R_mono (ok' := fun k_ => ((fun _ => True)) k_ ∧ some k_ ≠ (u12 : Value).ownBlock) (Kd.R_apart' (HO_14.out) (Kd.S_typed HO_12.out) (by decide)) (fun k_ hk => ⟨trivial, hk.2⟩))) (fun _ h_ => h_))); (case aB => exact bel); (case aF => exact (fun _ _ => trivial)); (case aO => exact (by (with_reducible repeat (first | apply Kd.S_alloc | apply Kd.S_drewN | apply Kd.S_drew)); exact Kd.S_mono HO_12.out (fun k_ hk => ⟨trivial, fun e_ => hk e_⟩))); (case aS => exact (below_size bel)); (case aL => have := LMc21.out; omega); intro v414 w22 ho hb hg hat; rw [← Ny413.out] at ho; have n0_ := Aside0.mk (Kd.R_after (ok := (fun k_ => some k_ ≠ (.slice Ao23 x14_3.length co23 : Value).ownBlock)) (by (with_reducible repeat (first | apply Kd.R_alloc | apply Kd.R_drewN | apply Kd.R_drew)); exact Kd.R_mono HO_10.out (fun _ hk => ⟨hk.2, hk.1⟩)) hg hat); have n1_ := Aside0.mk (hb); have n2_ := Aside0.mk (ho); clear HO_10; clear HB; clear HO_12; clear HO_14; have HO_10 := n0_; have HB := n1_; have HO415 := n2_; clear n0_ n1_ n2_; clear ho hb hg hat))
           go_roundg k3
           case measure => have := HK1.out; have := HK2.out; have := HK3.out; omega
           case rel => exact ⟨(x0_3), (y413), (wrap64 (x13_2 + 1)), rs, rs, H', ⟨by have := HK1.out; have := HK2.out; have := HK3.out; omega⟩, ⟨by (with_reducible repeat (first | apply Kd.R_alloc | apply Kd.R_drewN | apply Kd.R_drew)); exact Kd.R_mono HO_10.out (fun _ hk => hk.2)⟩, ⟨by (with_reducible repeat (first | apply Kd.S_alloc | apply Kd.S_drewN | apply Kd.S_drew)); exact HO415.out⟩, ⟨by repeat (first | (with_reducible first | exact HB.out | apply below_alloc | apply pw_below_drewN | apply below_drew1) | exact HB.out)⟩⟩
          ·rw [if_neg c21] at H
           exact absurd H (by simp)
      ·rw [if_neg c10] at H
       have c10b0 : decide (x13_2 < a2) = false := decide_eq_false c10
       clear c10
       by_cases c24 : x10_1.length < 5864062014805
       ·rw [if_pos c24] at H
        have LMc24 := Aside0.mk c24
        clear c24
        obtain ⟨y407, hy407⟩ : ∃ y_ : List (List (List Int)), y_ = (x10_1 ++ [x12_2]) := ⟨_, rfl⟩
        replace H : (tillerref11_lists.l0 k2 x0_2 a1 a2 a3 y407 (wrap64 (x11_1 + 1))) = some (r1, r2) := by first | (rw [hy407]; with_reducible exact H) | (have H2_ := (Option.bind_some _ _).symm.trans H; rw [hy407]; with_reducible exact H2_) | (have H2_ := (Option.bind_some _ _).symm.trans H; with_reducible exact H2_) | with_reducible exact H | (rw [hy407]; exact H) | exact H
        have Ny407 := Aside0.mk hy407
        clear hy407
        have H' := Aside0.mk H
        clear H
        obtain ⟨Ao26, co26, eo26⟩ := Kd.S_slice HO_12.out
        subst eo26
        go_wp2_with (first | ((with_reducible refine gate_builtin (b := .append) (xs := #[.tmp 58, .tmp 60]) rfl ?_); at_builtin; refine Kd.R_append (Kd.slice 61 (Kd.slice 72 (Kd.int .i32))) (w0 := w) w.heap.size rfl (.tmp 58) (.tmp 60) 25 62 (.slice none 0 0) 24 rfl Try.underlying25 info62 rfl (by decide) (by omega) u10 x10_1 x12_2 [.slice Ao26 x12_2.length co26] (fun _ => True) (fun k_ => ((fun _ => True)) k_ ∧ some k_ ≠ (u10 : Value).ownBlock) rfl rfl ?aP (fun _ hk => hk) ?aF ?aO ?aB ?aS ?aL ?_; (case aP => exact Kd.M_row (Kd.R_mono (Kd.R_apart' ((Kd.S_R HO_12.out)) (Kd.R_typed HO_10.out) (by decide)) (fun k_ hk => ⟨trivial, hk.2⟩))); (case aB => exact bel); (case aF => exact (fun _ _ => trivial)); (case aO => exact (by (with_reducible repeat (first | apply Kd.R_alloc | apply Kd.R_drewN | apply Kd.R_drew)); exact Kd.R_mono HO_10.out (fun _ hk => trivial))); (case aS => exact (below_size bel)); (case aL => have := LMc24.out; omega); intro v408 w25 ho hb hg hat; rw [← Ny407.out] at ho; have n0_ := Aside0.mk (hb); have n1_ := Aside0.mk (ho); clear HB; clear HO_10; clear HO_12; have HB := n0_; have HO409 := n1_; clear n0_ n1_; clear ho hb hg hat))
        go_roundg k2
        case measure => have := HK1.out; have := HK2.out; omega
        case rel => exact ⟨(x0_2), (y407), (wrap64 (x11_1 + 1)), rs, rs, H', ⟨by have := HK1.out; have := HK2.out; omega⟩, ⟨by (with_reducible repeat (first | apply Kd.R_alloc | apply Kd.R_drewN | apply Kd.R_drew)); exact HO409.out⟩, ⟨by repeat (first | (with_reducible first | exact HB.out | apply below_alloc | apply pw_below_drewN | apply below_drew1) | exact HB.out)⟩⟩
       ·rw [if_neg c24] at H
        exact absurd H (by simp)
   ·rw [if_neg c7] at H
    have c7b0 : decide (x11_1 < a1) = false := decide_eq_false c7
    clear c7
    simp only [Option.some.injEq, Prod.mk.injEq] at H
    obtain ⟨rfl, rfl⟩ := H
    go_wp2
    go_ret2
    exact ⟨_, by first | rfl | (simp [errW_none, errW_some] <;> rfl) | (simp [*, errW_none, errW_some] <;> rfl), by (with_reducible repeat (first | apply Kd.R_alloc | apply Kd.R_drewN | apply Kd.R_drew)); exact HO_10.out, by repeat (first | (with_reducible first | exact HB.out | apply below_alloc | apply pw_below_drewN | apply below_drew1) | exact HB.out)⟩

end Go.Proofs.Ytepbebelbcbciaa.Q
