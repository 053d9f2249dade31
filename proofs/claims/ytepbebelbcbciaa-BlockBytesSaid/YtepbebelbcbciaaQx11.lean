/- Functions of the program as plain Lean functions, each with a proof that the program's call comes to what it says; and rows of statements over them. No condition but those that the theorems name. Written by a program of this session (myprint.py, over the kit's print with patches of its own). -/
import Derived.Test.YtepbebelbcbciaaQx0
import Derived.Test.YtepbebelbcbciaaZWords
namespace Go.Proofs.Ytepbebelbcbciaa.Q
open Go.RowKit Go.Proofs.YtepbebelbcbciaaW.PrintWords Go.Proofs.YtepbebelbcbciaaW.PrintLast Go.Proofs.YtepbebelbcbciaaW.PrintMore
attribute [local go_sem] max2_int min2_int max_two min_two max_three min_three max_four min_four   -- for this text's walks alone
set_option linter.unusedVariables false
set_option linter.unusedSimpArgs false

/-! ### tillerref11_numbers: function 44 -/
mutual
def tillerref11_numbers.l0 : Nat → ByteArray → List (List (List Int)) → Int → Int → Option (ByteArray)
 | 0, _, _, _, _ => none
 | k + 1, x3, x11, x12, x13 => if x13 < x12 then (if 0 ≤ x13 then (if x13 < (x11.length : Int) then (tillerref11_numbers.l1 k x3 x11 x12 x13 (rd_L3 x11 x13) ((rd_L3 x11 x13).length : Int) 0) else (none)) else (none)) else (some x3)
def tillerref11_numbers.l1 : Nat → ByteArray → List (List (List Int)) → Int → Int → List (List Int) → Int → Int → Option (ByteArray)
 | 0, _, _, _, _, _, _, _ => none
 | k + 1, x3, x11, x12, x13, x17, x18, x19 => if x19 < x18 then (if 0 ≤ x19 then (if x19 < (x17.length : Int) then (tillerref11_numbers.l2 k x3 x11 x12 x13 x17 x18 x19 (rd_L2 x17 x19) ((rd_L2 x17 x19).length : Int) 0) else (none)) else (none)) else (tillerref11_numbers.l0 k x3 x11 x12 (wrap64 (x13 + 1)))
def tillerref11_numbers.l2 : Nat → ByteArray → List (List (List Int)) → Int → Int → List (List Int) → Int → Int → List Int → Int → Int → Option (ByteArray)
 | 0, _, _, _, _, _, _, _, _, _, _ => none
 | k + 1, x3, x11, x12, x13, x17, x18, x19, x23, x24, x25 => if x25 < x24 then (if 0 ≤ x25 then (if x25 < (x23.length : Int) then ((some (([(((rd x23 x25) % 4294967296) / 16777216) % 256, (((rd x23 x25) % 4294967296) / 65536) % 256, (((rd x23 x25) % 4294967296) / 256) % 256, ((rd x23 x25) % 4294967296) % 256] : List Int) : List Int)).bind fun y372 => (if x3.size + (strOfNums y372).size ≤ 9223372036854775807 then (tillerref11_numbers.l2 k (x3 ++ (strOfNums y372)) x11 x12 x13 x17 x18 x19 x23 x24 (wrap64 (x25 + 1))) else (none))) else (none)) else (none)) else (tillerref11_numbers.l1 k x3 x11 x12 x13 x17 x18 (wrap64 (x19 + 1)))
end
def tillerref11_numbers.f (k : Nat) (l0 : List (List (List Int))) : Option (ByteArray) := tillerref11_numbers.l0 k (⟨#[]⟩ : ByteArray) l0 (l0.length : Int) 0
theorem tillerref11_numbers.mono_l : ∀ k, (∀ y0 y1 y2 y3, LeO (tillerref11_numbers.l0 k y0 y1 y2 y3) (tillerref11_numbers.l0 (k + 1) y0 y1 y2 y3)) ∧ (∀ y0 y1 y2 y3 y4 y5 y6, LeO (tillerref11_numbers.l1 k y0 y1 y2 y3 y4 y5 y6) (tillerref11_numbers.l1 (k + 1) y0 y1 y2 y3 y4 y5 y6)) ∧ (∀ y0 y1 y2 y3 y4 y5 y6 y7 y8 y9, LeO (tillerref11_numbers.l2 k y0 y1 y2 y3 y4 y5 y6 y7 y8 y9) (tillerref11_numbers.l2 (k + 1) y0 y1 y2 y3 y4 y5 y6 y7 y8 y9))
 | 0 => ⟨fun _ _ _ _ r h => by simp [tillerref11_numbers.l0] at h, fun _ _ _ _ _ _ _ r h => by simp [tillerref11_numbers.l1] at h, fun _ _ _ _ _ _ _ _ _ _ r h => by simp [tillerref11_numbers.l2] at h⟩
 | k + 1 => by
  obtain ⟨ih0, ih1, ih2⟩ := tillerref11_numbers.mono_l k
  refine ⟨?_, ?_, ?_⟩
  ·intro y0 y1 y2 y3
   unfold tillerref11_numbers.l0
   repeat' first
   | (with_reducible exact ih0 _ _ _ _)
   | (with_reducible exact ih1 _ _ _ _ _ _ _)
   | (with_reducible exact ih2 _ _ _ _ _ _ _ _ _ _)
   | (with_reducible exact LeO.refl _)
   | (with_reducible exact LeO.none _)
   | (with_reducible refine LeO.ite ?_ ?_)
   | (with_reducible refine LeO.bind ?_ (fun _ => ?_))
   | exact ih0 _ _ _ _
   | exact ih1 _ _ _ _ _ _ _
   | exact ih2 _ _ _ _ _ _ _ _ _ _
   | exact LeO.none _
   | refine LeO.ite ?_ ?_
   | refine LeO.bind ?_ (fun _ => ?_)
  ·intro y0 y1 y2 y3 y4 y5 y6
   unfold tillerref11_numbers.l1
   repeat' first
   | (with_reducible exact ih0 _ _ _ _)
   | (with_reducible exact ih1 _ _ _ _ _ _ _)
   | (with_reducible exact ih2 _ _ _ _ _ _ _ _ _ _)
   | (with_reducible exact LeO.refl _)
   | (with_reducible exact LeO.none _)
   | (with_reducible refine LeO.ite ?_ ?_)
   | (with_reducible refine LeO.bind ?_ (fun _ => ?_))
   | exact ih0 _ _ _ _
   | exact ih1 _ _ _ _ _ _ _
   | exact ih2 _ _ _ _ _ _ _ _ _ _
   | exact LeO.none _
   | refine LeO.ite ?_ ?_
   | refine LeO.bind ?_ (fun _ => ?_)
  ·intro y0 y1 y2 y3 y4 y5 y6 y7 y8 y9
   unfold tillerref11_numbers.l2
   repeat' first
   | (with_reducible exact ih0 _ _ _ _)
   | (with_reducible exact ih1 _ _ _ _ _ _ _)
   | (with_reducible exact ih2 _ _ _ _ _ _ _ _ _ _)
   | (with_reducible exact LeO.refl _)
   | (with_reducible exact LeO.none _)
   | (with_reducible refine LeO.ite ?_ ?_)
   | (with_reducible refine LeO.bind ?_ (fun _ => ?_))
   | exact ih0 _ _ _ _
   | exact ih1 _ _ _ _ _ _ _
   | exact ih2 _ _ _ _ _ _ _ _ _ _
   | exact LeO.none _
   | refine LeO.ite ?_ ?_
   | refine LeO.bind ?_ (fun _ => ?_)
theorem tillerref11_numbers.mono : ∀ a0 k, LeO (tillerref11_numbers.f k a0) (tillerref11_numbers.f (k + 1) a0) := by
 intro a0 k
 obtain ⟨ih0, ih1, ih2⟩ := tillerref11_numbers.mono_l k
 unfold tillerref11_numbers.f
 repeat' first
   | (with_reducible exact ih0 _ _ _ _)
   | (with_reducible exact ih1 _ _ _ _ _ _ _)
   | (with_reducible exact ih2 _ _ _ _ _ _ _ _ _ _)
   | (with_reducible exact LeO.refl _)
   | (with_reducible exact LeO.none _)
   | (with_reducible refine LeO.ite ?_ ?_)
   | (with_reducible refine LeO.bind ?_ (fun _ => ?_))
   | exact ih0 _ _ _ _
   | exact ih1 _ _ _ _ _ _ _
   | exact ih2 _ _ _ _ _ _ _ _ _ _
   | exact LeO.none _
   | refine LeO.ite ?_ ?_
   | refine LeO.bind ?_ (fun _ => ?_)
set_option maxHeartbeats 8000000 in
set_option maxRecDepth 100000 in
theorem tillerref11_numbers.calls (k : Nat) (A0 : Option Addr) (c0 : Nat) (l0 : List (List (List Int))) (r : ByteArray) (w : World) (hr0 : Kd.C (Kd.slice 61 (Kd.slice 72 (Kd.int .i32))) w A0 l0.length l0) (hc0 : l0.length ≤ c0) (h : tillerref11_numbers.f k l0 = some r) :
  Calls Try.prog 44 #[.slice A0 l0.length c0] w fun e w' => e = .returned (.string r) ∧ Below w.heap.size w w' := by
 have HR0 := Aside0.mk hr0
 have HC0 := Aside0.mk hc0
 clear hr0 hc0
 have HB := Aside0.mk (Below.refl w.heap.size w)
 have H : (tillerref11_numbers.l0 k (⟨#[]⟩ : ByteArray) l0 (l0.length : Int) 0) = some r := h
 clear h
 have H' := Aside0.mk H
 clear H
 go_enter Try.func44, Try.ntmps44
 go_wp2
 go_loopg [3, 13] k (fun kq v3 v13 w' => ∃ (x3_1 : ByteArray) (x13_1 : Int), v3 = .string x3_1 ∧ v13 = .int .i64 x13_1 ∧ Aside0 (tillerref11_numbers.l0 kq x3_1 l0 (l0.length : Int) x13_1 = some r) ∧ Aside0 (kq ≤ k) ∧ Aside0 (Below w.heap.size w w'))
 case atStart => exact ⟨((⟨#[]⟩ : ByteArray)), (0), rs, rs, H', ⟨Nat.le_refl _⟩, ⟨by repeat (first | (with_reducible first | exact HB.out | apply below_alloc | apply pw_below_drewN | apply below_drew1) | exact HB.out)⟩⟩
 case round =>
  clear H'
  obtain ⟨x3_1, x13_1, rfl, rfl, HA, HK1, HB⟩ := hrel
  cases gk with
  | zero => exact absurd HA.out (by simp [tillerref11_numbers.l0])
  | succ k1 =>
   have H := HA.out
   clear HA
   simp only [tillerref11_numbers.l0] at H
   by_cases c2 : x13_1 < (l0.length : Int)
   ·rw [if_pos c2] at H
    have c2b0 : decide (x13_1 < (l0.length : Int)) = true := decide_eq_true c2
    clear c2
    by_cases c3 : 0 ≤ x13_1
    ·rw [if_pos c3] at H
     have c3b0 : decide (0 ≤ x13_1) = true := decide_eq_true c3
     clear c3
     by_cases c4 : x13_1 < (l0.length : Int)
     ·rw [if_pos c4] at H
      have c4b0 : decide (x13_1 < (l0.length : Int)) = true := decide_eq_true c4
      clear c4
      have H' := Aside0.mk H
      clear H
      have p369 : 0 ≤ (x13_1 : Int) := of_decide_eq_true asm
      have q369 : x13_1 < (l0.length : Int) := of_decide_eq_true asm
      obtain ⟨ad369, A369_0, c369_0, e369, hx369_0, hl369_0, hi369_0⟩ := at_L3 HR0.out x13_1 p369 q369
      cases e369
      (first | replace hx369_0 := (HB.out.cell (World.block_lt_of_cell? w _ hx369_0)).trans hx369_0 | skip)
      have HR369_0 := Aside0.mk hi369_0
      have HC369_0 := Aside0.mk hl369_0
      clear hi369_0 hl369_0
      replace p369 := eq_true p369
      replace q369 := eq_true q369
      go_wp2
      go_loopg [3, 19] k1 (fun kq v3 v19 w' => ∃ (x3_2 : ByteArray) (x19_2 : Int), v3 = .string x3_2 ∧ v19 = .int .i64 x19_2 ∧ Aside0 (tillerref11_numbers.l1 kq x3_2 l0 (l0.length : Int) x13_1 (rd_L3 l0 x13_1) ((rd_L3 l0 x13_1).length : Int) x19_2 = some r) ∧ Aside0 (kq ≤ k1) ∧ Aside0 (Below w.heap.size w w'))
      case atStart => exact ⟨(x3_1), (0), rs, rs, H', ⟨Nat.le_refl _⟩, ⟨by repeat (first | (with_reducible first | exact HB.out | apply below_alloc | apply pw_below_drewN | apply below_drew1) | exact HB.out)⟩⟩
      case round =>
       clear H'
       try clear c2
       try clear c2b0
       try clear p2
       try clear c3
       try clear c3b0
       try clear p3
       try clear q3
       try clear hx3
       try clear c4
       try clear c4b0
       try clear hx369_0
       try clear p369
       try clear q369
       obtain ⟨x3_2, x19_2, rfl, rfl, HA, HK2, HB⟩ := hrel
       cases gk with
       | zero => exact absurd HA.out (by simp [tillerref11_numbers.l1])
       | succ k2 =>
        have H := HA.out
        clear HA
        simp only [tillerref11_numbers.l1] at H
        by_cases c5 : x19_2 < ((rd_L3 l0 x13_1).length : Int)
        ·rw [if_pos c5] at H
         have c5b0 : decide (x19_2 < ((rd_L3 l0 x13_1).length : Int)) = true := decide_eq_true c5
         clear c5
         by_cases c6 : 0 ≤ x19_2
         ·rw [if_pos c6] at H
          have c6b0 : decide (0 ≤ x19_2) = true := decide_eq_true c6
          clear c6
          by_cases c7 : x19_2 < ((rd_L3 l0 x13_1).length : Int)
          ·rw [if_pos c7] at H
           have c7b0 : decide (x19_2 < ((rd_L3 l0 x13_1).length : Int)) = true := decide_eq_true c7
           clear c7
           have H' := Aside0.mk H
           clear H
           have p370 : 0 ≤ (x19_2 : Int) := of_decide_eq_true asm
           have q370 : x19_2 < ((rd_L3 l0 x13_1).length : Int) := of_decide_eq_true asm
           obtain ⟨ad370, A370_0, c370_0, e370, hx370_0, hl370_0, hi370_0⟩ := at_L2 HR369_0.out x19_2 p370 q370
           cases e370
           (first | replace hx370_0 := (HB.out.cell (World.block_lt_of_cell? w _ hx370_0)).trans hx370_0 | skip)
           have HR370_0 := Aside0.mk hi370_0
           have HC370_0 := Aside0.mk hl370_0
           clear hi370_0 hl370_0
           replace p370 := eq_true p370
           replace q370 := eq_true q370
           go_wp2
           go_loopg [3, 25] k2 (fun kq v3 v25 w' => ∃ (x3_3 : ByteArray) (x25_3 : Int), v3 = .string x3_3 ∧ v25 = .int .i64 x25_3 ∧ Aside0 (tillerref11_numbers.l2 kq x3_3 l0 (l0.length : Int) x13_1 (rd_L3 l0 x13_1) ((rd_L3 l0 x13_1).length : Int) x19_2 (rd_L2 (rd_L3 l0 x13_1) x19_2) ((rd_L2 (rd_L3 l0 x13_1) x19_2).length : Int) x25_3 = some r) ∧ Aside0 (kq ≤ k2) ∧ Aside0 (Below w.heap.size w w'))
           case atStart => exact ⟨(x3_2), (0), rs, rs, H', ⟨Nat.le_refl _⟩, ⟨by repeat (first | (with_reducible first | exact HB.out | apply below_alloc | apply pw_below_drewN | apply below_drew1) | exact HB.out)⟩⟩
           case round =>
            clear H'
            try clear c2
            try clear c2b0
            try clear p2
            try clear c3
            try clear c3b0
            try clear p3
            try clear q3
            try clear hx3
            try clear c4
            try clear c4b0
            try clear c5
            try clear c5b0
            try clear c6
            try clear c6b0
            try clear c7
            try clear c7b0
            try clear hx369_0
            try clear hx370_0
            try clear p2
            try clear p3
            try clear p369
            try clear p370
            try clear q3
            try clear q369
            try clear q370
            obtain ⟨x3_3, x25_3, rfl, rfl, HA, HK3, HB⟩ := hrel
            cases gk with
            | zero => exact absurd HA.out (by simp [tillerref11_numbers.l2])
            | succ k3 =>
             have H := HA.out
             clear HA
             simp only [tillerref11_numbers.l2] at H
             by_cases c8 : x25_3 < ((rd_L2 (rd_L3 l0 x13_1) x19_2).length : Int)
             ·rw [if_pos c8] at H
              have c8b0 : decide (x25_3 < ((rd_L2 (rd_L3 l0 x13_1) x19_2).length : Int)) = true := decide_eq_true c8
              clear c8
              by_cases c9 : 0 ≤ x25_3
              ·rw [if_pos c9] at H
               have c9b0 : decide (0 ≤ x25_3) = true := decide_eq_true c9
               clear c9
               by_cases c10 : x25_3 < ((rd_L2 (rd_L3 l0 x13_1) x19_2).length : Int)
               ·rw [if_pos c10] at H
                have c10b0 : decide (x25_3 < ((rd_L2 (rd_L3 l0 x13_1) x19_2).length : Int)) = true := decide_eq_true c10
                clear c10
                obtain ⟨y372, hy372⟩ : ∃ y_ : List Int, y_ = (([(((rd (rd_L2 (rd_L3 l0 x13_1) x19_2) x25_3) % 4294967296) / 16777216) % 256, (((rd (rd_L2 (rd_L3 l0 x13_1) x19_2) x25_3) % 4294967296) / 65536) % 256, (((rd (rd_L2 (rd_L3 l0 x13_1) x19_2) x25_3) % 4294967296) / 256) % 256, ((rd (rd_L2 (rd_L3 l0 x13_1) x19_2) x25_3) % 4294967296) % 256] : List Int)) := ⟨_, rfl⟩
                replace H : (if x3_3.size + (strOfNums y372).size ≤ 9223372036854775807 then (tillerref11_numbers.l2 k3 (x3_3 ++ (strOfNums y372)) l0 (l0.length : Int) x13_1 (rd_L3 l0 x13_1) ((rd_L3 l0 x13_1).length : Int) x19_2 (rd_L2 (rd_L3 l0 x13_1) x19_2) ((rd_L2 (rd_L3 l0 x13_1) x19_2).length : Int) (wrap64 (x25_3 + 1))) else (none)) = some r := by first | (rw [hy372]; with_reducible exact H) | (have H2_ := (Option.bind_some _ _).symm.trans H; rw [hy372]; with_reducible exact H2_) | (have H2_ := (Option.bind_some _ _).symm.trans H; with_reducible exact H2_) | with_reducible exact H | (rw [hy372]; exact H) | exact H
                have Ny372 := Aside0.mk hy372
                clear hy372
                by_cases c11 : x3_3.size + (strOfNums y372).size ≤ 9223372036854775807
                ·rw [if_pos c11] at H
                 have c11b0 := eq_true c11
                 have c11b1 : decide (x3_3.size + (strOfNums y372).size ≤ 9223372036854775807) = true := decide_eq_true c11
                 try have c11b2 : (9223372036854775807 < x3_3.size + (strOfNums y372).size) = False := eq_false (Nat.not_lt.2 c11)
                 have H' := Aside0.mk H
                 clear H
                 have p371 : 0 ≤ (x25_3 : Int) := of_decide_eq_true asm
                 have q371 : x25_3 < ((rd_L2 (rd_L3 l0 x13_1) x19_2).length : Int) := of_decide_eq_true asm
                 obtain ⟨ad371, e371, hx371_0⟩ := Kd.at_int HR370_0.out x25_3 p371 q371
                 cases e371
                 (first | replace hx371_0 := (HB.out.cell (World.block_lt_of_cell? w _ hx371_0)).trans hx371_0 | skip)
                 replace p371 := eq_true p371
                 replace q371 := eq_true q371
                 go_wp2_with (first | ((with_reducible refine gate_dst (N := 46) rfl ?_); refine Kd.R_lit (Kd.int .u8) _ 5 ?hg (N := 46) ?hd (xs := ([(((rd (rd_L2 (rd_L3 l0 x13_1) x19_2) x25_3) % 4294967296) / 16777216) % 256, (((rd (rd_L2 (rd_L3 l0 x13_1) x19_2) x25_3) % 4294967296) / 65536) % 256, (((rd (rd_L2 (rd_L3 l0 x13_1) x19_2) x25_3) % 4294967296) / 256) % 256, ((rd (rd_L2 (rd_L3 l0 x13_1) x19_2) x25_3) % 4294967296) % 256] : List Int)) (inner := [.int .u8 ((((rd (rd_L2 (rd_L3 l0 x13_1) x19_2) x25_3) % 4294967296) / 16777216) % 256), .int .u8 ((((rd (rd_L2 (rd_L3 l0 x13_1) x19_2) x25_3) % 4294967296) / 65536) % 256), .int .u8 ((((rd (rd_L2 (rd_L3 l0 x13_1) x19_2) x25_3) % 4294967296) / 256) % 256), .int .u8 (((rd (rd_L2 (rd_L3 l0 x13_1) x19_2) x25_3) % 4294967296) % 256)]) (ok := fun _ => True) (okp := fun _ => True) ?hr ?hp (fun _ hk => hk) trivial (Below.refl _ _) (Nat.le_refl _) (by simp) ?_; (case hd => rfl); (case hg => rfl); (case hr => first | (go_simp; done) | (go_simp; rfl) | (simp only [u8_a, u8_b]; first | (go_simp; done) | (go_simp; rfl))); (case hp => exact (Reps.one (show Kd.M (Kd.int .u8) _ _ _ ((((rd (rd_L2 (rd_L3 l0 x13_1) x19_2) x25_3) % 4294967296) / 16777216) % 256) [.int .u8 ((((rd (rd_L2 (rd_L3 l0 x13_1) x19_2) x25_3) % 4294967296) / 16777216) % 256)] from rfl) (Reps.one (show Kd.M (Kd.int .u8) _ _ _ ((((rd (rd_L2 (rd_L3 l0 x13_1) x19_2) x25_3) % 4294967296) / 65536) % 256) [.int .u8 ((((rd (rd_L2 (rd_L3 l0 x13_1) x19_2) x25_3) % 4294967296) / 65536) % 256)] from rfl) (Reps.one (show Kd.M (Kd.int .u8) _ _ _ ((((rd (rd_L2 (rd_L3 l0 x13_1) x19_2) x25_3) % 4294967296) / 256) % 256) [.int .u8 ((((rd (rd_L2 (rd_L3 l0 x13_1) x19_2) x25_3) % 4294967296) / 256) % 256)] from rfl) (Reps.one (show Kd.M (Kd.int .u8) _ _ _ (((rd (rd_L2 (rd_L3 l0 x13_1) x19_2) x25_3) % 4294967296) % 256) [.int .u8 (((rd (rd_L2 (rd_L3 l0 x13_1) x19_2) x25_3) % 4294967296) % 256)] from rfl) (Reps.none _ _)))))); intro v373 w12 ho13 hb hg_ hnew_; clear hg_ hnew_; (first | rw [← Ny372.out] at ho13 | (simp only [Int.reduceToNat] at ho13; rw [← Ny372.out] at ho13)); have n0_ := Aside0.mk (Kd.R_lower ho13 (below_size bel)); have n1_ := Aside0.mk (below_step bel hb); clear HB; have HO374 := n0_; have HB := n1_; clear n0_ n1_; clear hb ho13; have hcv14 := own_string (P := Try.prog) Try.underlying80 Try.underlying5 Try.underlying9 (Kd.own_of_R HO374.out)))
                 go_roundg k3
                 case measure => have := HK1.out; have := HK2.out; have := HK3.out; omega
                 case rel => exact ⟨(x3_3 ++ (strOfNums y372)), (wrap64 (x25_3 + 1)), rs, rs, H', ⟨by have := HK1.out; have := HK2.out; have := HK3.out; omega⟩, ⟨by repeat (first | (with_reducible first | exact HB.out | apply below_alloc | apply pw_below_drewN | apply below_drew1) | exact HB.out)⟩⟩
                ·rw [if_neg c11] at H
                 exact absurd H (by simp)
               ·rw [if_neg c10] at H
                exact absurd H (by simp)
              ·rw [if_neg c9] at H
               exact absurd H (by simp)
             ·rw [if_neg c8] at H
              have c8b0 : decide (x25_3 < ((rd_L2 (rd_L3 l0 x13_1) x19_2).length : Int)) = false := decide_eq_false c8
              clear c8
              have H' := Aside0.mk H
              clear H
              go_wp2
              go_roundg k3
              case measure => have := HK1.out; have := HK2.out; have := HK3.out; omega
              case rel => exact ⟨(x3_3), (wrap64 (x19_2 + 1)), rs, rs, H', ⟨by have := HK1.out; have := HK2.out; have := HK3.out; omega⟩, ⟨by repeat (first | (with_reducible first | exact HB.out | apply below_alloc | apply pw_below_drewN | apply below_drew1) | exact HB.out)⟩⟩
          ·rw [if_neg c7] at H
           exact absurd H (by simp)
         ·rw [if_neg c6] at H
          exact absurd H (by simp)
        ·rw [if_neg c5] at H
         have c5b0 : decide (x19_2 < ((rd_L3 l0 x13_1).length : Int)) = false := decide_eq_false c5
         clear c5
         have H' := Aside0.mk H
         clear H
         go_wp2
         go_roundg k2
         case measure => have := HK1.out; have := HK2.out; omega
         case rel => exact ⟨(x3_2), (wrap64 (x13_1 + 1)), rs, rs, H', ⟨by have := HK1.out; have := HK2.out; omega⟩, ⟨by repeat (first | (with_reducible first | exact HB.out | apply below_alloc | apply pw_below_drewN | apply below_drew1) | exact HB.out)⟩⟩
     ·rw [if_neg c4] at H
      exact absurd H (by simp)
    ·rw [if_neg c3] at H
     exact absurd H (by simp)
   ·rw [if_neg c2] at H
    have c2b0 : decide (x13_1 < (l0.length : Int)) = false := decide_eq_false c2
    clear c2
    obtain rfl := Option.some.inj H
    go_wp2
    go_ret
    exact ⟨by first | rfl | (simp [errW_none, errW_some] <;> rfl) | (simp [*, errW_none, errW_some] <;> rfl), by repeat (first | (with_reducible first | exact HB.out | apply below_alloc | apply pw_below_drewN | apply below_drew1) | exact HB.out)⟩

/-! ### tillerref11_Bytes: function 17 -/
def tillerref11_Bytes.l0 : Nat → ByteArray → List Int → Int → Int → List Int → Int → List (List (List Int)) → List (List (List Int)) → Option (ByteArray)
 | 0, _, _, _, _, _, _, _, _ => none
 | k + 1, x3, x16, x17, x18, x376000, x376001, x376002, x376003 => if x18 < x17 then (if 0 ≤ x18 then (if x18 < (x16.length : Int) then ((some (([(rd x16 x18) % 256] : List Int) : List Int)).bind fun y380 => (if x3.size + (strOfNums y380).size ≤ 9223372036854775807 then (tillerref11_Bytes.l0 k (x3 ++ (strOfNums y380)) x16 x17 (wrap64 (x18 + 1)) x376000 x376001 x376002 x376003) else (none))) else (none)) else (none)) else ((tillerref11_numbers.f k x376002).bind fun t383 => (if x3.size + t383.size ≤ 9223372036854775807 then ((tillerref11_numbers.f k x376003).bind fun t384 => (if (x3 ++ t383).size + t384.size ≤ 9223372036854775807 then (some ((x3 ++ t383) ++ t384)) else (none))) else (none)))
def tillerref11_Bytes.f (k : Nat) (l0_0 : List Int) (a0_1 : Int) (l0_2 : List (List (List Int))) (l0_3 : List (List (List Int))) : Option (ByteArray) := tillerref11_Bytes.l0 k (strOfNums (([((l0_0.length : Int)) % 256, (a0_1) % 256] : List Int))) l0_0 (l0_0.length : Int) 0 l0_0 a0_1 l0_2 l0_3
theorem tillerref11_Bytes.mono_l : ∀ k, (∀ y0 y1 y2 y3 y4 y5 y6 y7, LeO (tillerref11_Bytes.l0 k y0 y1 y2 y3 y4 y5 y6 y7) (tillerref11_Bytes.l0 (k + 1) y0 y1 y2 y3 y4 y5 y6 y7))
 | 0 => fun _ _ _ _ _ _ _ _ r h => by simp [tillerref11_Bytes.l0] at h
 | k + 1 => by
  have ih0 := tillerref11_Bytes.mono_l k
  ·intro y0 y1 y2 y3 y4 y5 y6 y7
   unfold tillerref11_Bytes.l0
   repeat' first
   | (with_reducible exact ih0 _ _ _ _ _ _ _ _)
   | (with_reducible exact tillerref11_numbers.mono _ _)
   | (with_reducible exact LeO.refl _)
   | (with_reducible exact LeO.none _)
   | (with_reducible refine LeO.ite ?_ ?_)
   | (with_reducible refine LeO.bind ?_ (fun _ => ?_))
   | exact ih0 _ _ _ _ _ _ _ _
   | exact tillerref11_numbers.mono _ _
   | exact LeO.none _
   | refine LeO.ite ?_ ?_
   | refine LeO.bind ?_ (fun _ => ?_)
theorem tillerref11_Bytes.mono : ∀ a0 a1 a2 a3 k, LeO (tillerref11_Bytes.f k a0 a1 a2 a3) (tillerref11_Bytes.f (k + 1) a0 a1 a2 a3) := by
 intro a0 a1 a2 a3 k
 have ih0 := tillerref11_Bytes.mono_l k
 unfold tillerref11_Bytes.f
 repeat' first
   | (with_reducible exact ih0 _ _ _ _ _ _ _ _)
   | (with_reducible exact tillerref11_numbers.mono _ _)
   | (with_reducible exact LeO.refl _)
   | (with_reducible exact LeO.none _)
   | (with_reducible refine LeO.ite ?_ ?_)
   | (with_reducible refine LeO.bind ?_ (fun _ => ?_))
   | exact ih0 _ _ _ _ _ _ _ _
   | exact tillerref11_numbers.mono _ _
   | exact LeO.none _
   | refine LeO.ite ?_ ?_
   | refine LeO.bind ?_ (fun _ => ?_)
def tillerref11_Bytes.T7 : Bool × List (List Nat × List Nat) := (true, [([], []), ([], []), ([1], [1]), ([2], [2]), ([0, 3], [0, 3]), ([], []), ([5], [5]), ([6, 3], [6]), ([4, 7], [4, 7]), ([8, 7, 0, 1, 2, 3, 4, 5, 6, 7, 8], [8])])
def tillerref11_Bytes.B7 : List Nat := [0, 0, 2, 6, 15, 0, 32, 110, 255, 511]
theorem tillerref11_Bytes.tab7 : rtab .any (opsOf Try.f17 7) = tillerref11_Bytes.T7 := by kernel_rfl
theorem tillerref11_Bytes.bits7 : waitsOk tillerref11_Bytes.T7.2 tillerref11_Bytes.B7 = true := by kernel_rfl
set_option maxHeartbeats 8000000 in
set_option maxRecDepth 100000 in
theorem tillerref11_Bytes.calls (k : Nat) (A0_0 : Option Addr) (c0_0 : Nat) (l0_0 : List Int) (a0_1 : Int) (A0_2 : Option Addr) (c0_2 : Nat) (l0_2 : List (List (List Int))) (A0_3 : Option Addr) (c0_3 : Nat) (l0_3 : List (List (List Int))) (r : ByteArray) (w : World) (hr0_0 : Kd.C (Kd.int .i64) w A0_0 l0_0.length l0_0) (hc0_0 : l0_0.length ≤ c0_0) (hr0_2 : Kd.C (Kd.slice 61 (Kd.slice 72 (Kd.int .i32))) w A0_2 l0_2.length l0_2) (hc0_2 : l0_2.length ≤ c0_2) (hr0_3 : Kd.C (Kd.slice 61 (Kd.slice 72 (Kd.int .i32))) w A0_3 l0_3.length l0_3) (hc0_3 : l0_3.length ≤ c0_3) (h : tillerref11_Bytes.f k l0_0 a0_1 l0_2 l0_3 = some r) :
  Calls Try.prog 17 #[.agg #[.slice A0_0 l0_0.length c0_0, .int .i64 a0_1, .slice A0_2 l0_2.length c0_2, .slice A0_3 l0_3.length c0_3]] w fun e w' => e = .returned (.string r) ∧ Below w.heap.size w w' := by
 have hu31 := Try.underlying31
 have HR0_0 := Aside0.mk hr0_0
 have HC0_0 := Aside0.mk hc0_0
 clear hr0_0 hc0_0
 have HR0_2 := Aside0.mk hr0_2
 have HC0_2 := Aside0.mk hc0_2
 clear hr0_2 hc0_2
 have HR0_3 := Aside0.mk hr0_3
 have HC0_3 := Aside0.mk hc0_3
 clear hr0_3 hc0_3
 have HB := Aside0.mk (Below.refl w.heap.size w)
 have H : (tillerref11_Bytes.l0 k (strOfNums (([((l0_0.length : Int)) % 256, (a0_1) % 256] : List Int))) l0_0 (l0_0.length : Int) 0 l0_0 a0_1 l0_2 l0_3) = some r := h
 clear h
 obtain ⟨y376, hy376⟩ : ∃ y_ : List Int, y_ = (([((l0_0.length : Int)) % 256, (a0_1) % 256] : List Int)) := ⟨_, rfl⟩
 replace H : (tillerref11_Bytes.l0 k (strOfNums y376) l0_0 (l0_0.length : Int) 0 l0_0 a0_1 l0_2 l0_3) = some r := by first | (rw [hy376]; with_reducible exact H) | (have H2_ := (Option.bind_some _ _).symm.trans H; rw [hy376]; with_reducible exact H2_) | (have H2_ := (Option.bind_some _ _).symm.trans H; with_reducible exact H2_) | with_reducible exact H | (rw [hy376]; exact H) | exact H
 have Ny376 := Aside0.mk hy376
 clear hy376
 have H' := Aside0.mk H
 clear H
 go_enter Try.func17, Try.ntmps17
 go_wp2_with (first | ((with_reducible refine gate_dst (N := 1) rfl ?_); refine bxe (N := 1) (cs := #[.slice A0_0 l0_0.length c0_0, .int .i64 a0_1, .slice A0_2 l0_2.length c0_2, .slice A0_3 l0_3.length c0_3]) (t := 31) ?_; intro gb375 hg w2 hbox hb; have n0_ := Aside0.mk (below_step bel hb); have n1_ := Aside0.mk (hbox); have n2_ := Aside0.mk ((bsz hg : w.heap.size ≤ gb375)); have n3_ := Aside0.mk ((bsz hg : w.heap.size ≤ gb375)); clear HB; have HB := n0_; have BK375 := n1_; have GW375 := n2_; have GE375 := n3_; clear n0_ n1_ n2_ n3_; clear hb hbox hg; obtain ⟨hcz3_0, hcz3_1, hcz3_2, hcz3_3, hfz3_0, hfz3_1, hfz3_2, hfz3_3⟩ := cq4 BK375.out) | ((with_reducible refine gate_dst (N := 13) rfl ?_); refine Kd.R_lit (Kd.int .u8) _ 5 ?hg (N := 13) ?hd (xs := ([((l0_0.length : Int)) % 256, (a0_1) % 256] : List Int)) (inner := [.int .u8 (((l0_0.length : Int)) % 256), .int .u8 ((a0_1) % 256)]) (ok := fun _ => True) (okp := fun _ => True) ?hr ?hp (fun _ hk => hk) trivial (Below.refl _ _) (Nat.le_refl _) (by simp) ?_; (case hd => rfl); (case hg => rfl); (case hr => first | (go_simp; done) | (go_simp; rfl)); (case hp => exact (Reps.one (show Kd.M (Kd.int .u8) _ _ _ (((l0_0.length : Int)) % 256) [.int .u8 (((l0_0.length : Int)) % 256)] from rfl) (Reps.one (show Kd.M (Kd.int .u8) _ _ _ ((a0_1) % 256) [.int .u8 ((a0_1) % 256)] from rfl) (Reps.none _ _)))); intro v377 w4 ho5 hb hg_ hnew_; clear hg_ hnew_; (first | rw [← Ny376.out] at ho5 | (simp only [Int.reduceToNat] at ho5; rw [← Ny376.out] at ho5)); have n0_ := Aside0.mk (Kd.R_lower ho5 (below_size bel)); have n1_ := Aside0.mk (bkb BK375.out hb); have n2_ := Aside0.mk (below_step bel hb); clear BK375; clear HB; have HO378 := n0_; have BK375 := n1_; have HB := n2_; clear n0_ n1_ n2_; clear hb ho5; have hcv6 := own_string (P := Try.prog) Try.underlying80 Try.underlying5 Try.underlying9 (Kd.own_of_R HO378.out); obtain ⟨hcz7_0, hcz7_1, hcz7_2, hcz7_3, hfz7_0, hfz7_1, hfz7_2, hfz7_3⟩ := cq4 BK375.out))
 go_loopg [3, 18] k (fun kq v3 v18 w' => ∃ (x3_1 : ByteArray) (x18_1 : Int), v3 = .string x3_1 ∧ v18 = .int .i64 x18_1 ∧ Aside0 (tillerref11_Bytes.l0 kq x3_1 l0_0 (l0_0.length : Int) x18_1 l0_0 a0_1 l0_2 l0_3 = some r) ∧ Aside0 (kq ≤ k) ∧ Aside0 (w'.heap[gb375]? = some (.cells #[(.slice A0_0 l0_0.length c0_0), .int .i64 a0_1, (.slice A0_2 l0_2.length c0_2), (.slice A0_3 l0_3.length c0_3)] 31 (0, 0))) ∧ Aside0 (Below w.heap.size w w'))
 case atStart => exact ⟨(strOfNums y376), (0), rs, rs, H', ⟨Nat.le_refl _⟩, ⟨by (with_reducible repeat (first | refine blk_drewN ?_ _ | refine blk_drew ?_ | refine blk_alloc ?_ _)); exact BK375.out⟩, ⟨by repeat (first | (with_reducible first | exact HB.out | apply below_alloc | apply pw_below_drewN | apply below_drew1 | refine below_set ?_ GE375.out) | exact HB.out)⟩⟩
 case round =>
  clear H'
  try clear c1
  try clear p2
  try clear hcv6
  try clear hcz3_0
  try clear hcz3_1
  try clear hcz3_2
  try clear hcz3_3
  try clear hcz7_0
  try clear hcz7_1
  try clear hcz7_2
  try clear hcz7_3
  try clear hfz3_0
  try clear hfz3_1
  try clear hfz3_2
  try clear hfz3_3
  try clear hfz7_0
  try clear hfz7_1
  try clear hfz7_2
  try clear hfz7_3
  obtain ⟨x3_1, x18_1, rfl, rfl, HA, HK1, BK375, HB⟩ := hrel
  cases gk with
  | zero => exact absurd HA.out (by simp [tillerref11_Bytes.l0])
  | succ k1 =>
   have H := HA.out
   clear HA
   simp only [tillerref11_Bytes.l0] at H
   by_cases c8 : x18_1 < (l0_0.length : Int)
   ·rw [if_pos c8] at H
    have c8b0 : decide (x18_1 < (l0_0.length : Int)) = true := decide_eq_true c8
    clear c8
    by_cases c9 : 0 ≤ x18_1
    ·rw [if_pos c9] at H
     have c9b0 : decide (0 ≤ x18_1) = true := decide_eq_true c9
     clear c9
     by_cases c10 : x18_1 < (l0_0.length : Int)
     ·rw [if_pos c10] at H
      have c10b0 : decide (x18_1 < (l0_0.length : Int)) = true := decide_eq_true c10
      clear c10
      obtain ⟨y380, hy380⟩ : ∃ y_ : List Int, y_ = (([(rd l0_0 x18_1) % 256] : List Int)) := ⟨_, rfl⟩
      replace H : (if x3_1.size + (strOfNums y380).size ≤ 9223372036854775807 then (tillerref11_Bytes.l0 k1 (x3_1 ++ (strOfNums y380)) l0_0 (l0_0.length : Int) (wrap64 (x18_1 + 1)) l0_0 a0_1 l0_2 l0_3) else (none)) = some r := by first | (rw [hy380]; with_reducible exact H) | (have H2_ := (Option.bind_some _ _).symm.trans H; rw [hy380]; with_reducible exact H2_) | (have H2_ := (Option.bind_some _ _).symm.trans H; with_reducible exact H2_) | with_reducible exact H | (rw [hy380]; exact H) | exact H
      have Ny380 := Aside0.mk hy380
      clear hy380
      by_cases c11 : x3_1.size + (strOfNums y380).size ≤ 9223372036854775807
      ·rw [if_pos c11] at H
       have c11b0 := eq_true c11
       have c11b1 : decide (x3_1.size + (strOfNums y380).size ≤ 9223372036854775807) = true := decide_eq_true c11
       try have c11b2 : (9223372036854775807 < x3_1.size + (strOfNums y380).size) = False := eq_false (Nat.not_lt.2 c11)
       have H' := Aside0.mk H
       clear H
       have p379 : 0 ≤ (x18_1 : Int) := of_decide_eq_true asm
       have q379 : x18_1 < (l0_0.length : Int) := of_decide_eq_true asm
       obtain ⟨ad379, e379, hx379_0⟩ := Kd.at_int HR0_0.out x18_1 p379 q379
       cases e379
       (first | replace hx379_0 := (HB.out.cell (World.block_lt_of_cell? w _ hx379_0)).trans hx379_0 | skip)
       replace p379 := eq_true p379
       replace q379 := eq_true q379
       go_wp2_with (first | ((with_reducible refine gate_dst (N := 25) rfl ?_); refine Kd.R_lit (Kd.int .u8) _ 5 ?hg (N := 25) ?hd (xs := ([(rd l0_0 x18_1) % 256] : List Int)) (inner := [.int .u8 ((rd l0_0 x18_1) % 256)]) (ok := fun _ => True) (okp := fun _ => True) ?hr ?hp (fun _ hk => hk) trivial (Below.refl _ _) (Nat.le_refl _) (by simp) ?_; (case hd => rfl); (case hg => rfl); (case hr => first | (go_simp; done) | (go_simp; rfl)); (case hp => exact (Reps.one (show Kd.M (Kd.int .u8) _ _ _ ((rd l0_0 x18_1) % 256) [.int .u8 ((rd l0_0 x18_1) % 256)] from rfl) (Reps.none _ _))); intro v381 w12 ho13 hb hg_ hnew_; clear hg_ hnew_; (first | rw [← Ny380.out] at ho13 | (simp only [Int.reduceToNat] at ho13; rw [← Ny380.out] at ho13)); have n0_ := Aside0.mk (Kd.R_lower ho13 (below_size bel)); have n1_ := Aside0.mk (bkb BK375.out hb); have n2_ := Aside0.mk (below_step bel hb); clear BK375; clear HB; have HO382 := n0_; have BK375 := n1_; have HB := n2_; clear n0_ n1_ n2_; clear hb ho13; have hcv14 := own_string (P := Try.prog) Try.underlying80 Try.underlying5 Try.underlying9 (Kd.own_of_R HO382.out)))
       go_roundg k1
       case measure => have := HK1.out; omega
       case rel => exact ⟨(x3_1 ++ (strOfNums y380)), (wrap64 (x18_1 + 1)), rs, rs, H', ⟨by have := HK1.out; omega⟩, ⟨by (with_reducible repeat (first | refine blk_drewN ?_ _ | refine blk_drew ?_ | refine blk_alloc ?_ _)); exact BK375.out⟩, ⟨by repeat (first | (with_reducible first | exact HB.out | apply below_alloc | apply pw_below_drewN | apply below_drew1 | refine below_set ?_ GE375.out) | exact HB.out)⟩⟩
      ·rw [if_neg c11] at H
       exact absurd H (by simp)
     ·rw [if_neg c10] at H
      exact absurd H (by simp)
    ·rw [if_neg c9] at H
     exact absurd H (by simp)
   ·rw [if_neg c8] at H
    have c8b0 : decide (x18_1 < (l0_0.length : Int)) = false := decide_eq_false c8
    clear c8
    replace H := Option.bind_eq_some_iff.mp H
    obtain ⟨t383, A150, H⟩ := H
    replace H : (if x3_1.size + t383.size ≤ 9223372036854775807 then ((tillerref11_numbers.f k1 l0_3).bind fun t384 => (if (x3_1 ++ t383).size + t384.size ≤ 9223372036854775807 then (some ((x3_1 ++ t383) ++ t384)) else (none))) else (none)) = some r := H
    have A15 := Aside0.mk A150
    clear A150
    by_cases c16 : x3_1.size + t383.size ≤ 9223372036854775807
    ·rw [if_pos c16] at H
     have c16b0 := eq_true c16
     have c16b1 : decide (x3_1.size + t383.size ≤ 9223372036854775807) = true := decide_eq_true c16
     try have c16b2 : (9223372036854775807 < x3_1.size + t383.size) = False := eq_false (Nat.not_lt.2 c16)
     replace H := Option.bind_eq_some_iff.mp H
     obtain ⟨t384, A170, H⟩ := H
     replace H : (if (x3_1 ++ t383).size + t384.size ≤ 9223372036854775807 then (some ((x3_1 ++ t383) ++ t384)) else (none)) = some r := H
     have A17 := Aside0.mk A170
     clear A170
     by_cases c18 : (x3_1 ++ t383).size + t384.size ≤ 9223372036854775807
     ·rw [if_pos c18] at H
      have c18b0 := eq_true c18
      have c18b1 : decide ((x3_1 ++ t383).size + t384.size ≤ 9223372036854775807) = true := decide_eq_true c18
      try have c18b2 : (9223372036854775807 < (x3_1 ++ t383).size + t384.size) = False := eq_false (Nat.not_lt.2 c18)
      try have c18s2 : (9223372036854775807 < x3_1.size + t383.size + t384.size) = False := eq_false (Nat.not_lt.2 (by rw [ByteArray.size_append] at c18; exact c18))
      obtain rfl := Option.some.inj H
      try go_wp2
      have n0_ := Aside0.mk (blk_drew BK375.out)
      have n1_ := Aside0.mk (below_drew1 HB.out)
      clear BK375
      clear HB
      have BK375 := n0_
      have HB := n1_
      clear n0_ n1_
      refine start_ (n := 10) (S := fun w' => w'.cell? ⟨gb375, 0, none⟩ = some (.slice A0_0 l0_0.length c0_0) ∧ w'.cell? ⟨gb375, 1, none⟩ = some (.int .i64 a0_1) ∧ w'.cell? ⟨gb375, 2, none⟩ = some (.slice A0_2 l0_2.length c0_2) ∧ w'.cell? ⟨gb375, 3, none⟩ = some (.slice A0_3 l0_3.length c0_3)) (ds := []) #[false, false, false, false, false, false, false, false, false, false] (by kernel_rfl) rfl rfl ⟨(blk_cell BK375.out 0).trans rfl, (blk_cell BK375.out 1).trans rfl, (blk_cell BK375.out 2).trans rfl, (blk_cell BK375.out 3).trans rfl⟩ (fun hHeld => ?_); refine with_tabW tillerref11_Bytes.tab7 tillerref11_Bytes.bits7 (fun HT_ HW_ => ?_)
      generalize wr.drew = w19 at BK375 HB hHeld ⊢
      refine pure_ (i := 0) (N := some 29) (v := ?_) (a' := ?_) #[true, false, false, false, false, false, false, false, false, false] rfl rfl (any_of HT_.out (by kernel_rfl)) (fun _ _ _ h => h) (Or.inl ⟨by rfl, ?_⟩) ?_ ?_
      rotate_left
      ·intro w'
       go_simp
       with_reducible rfl
      rotate_left
      ·simp only [Act.put, List.setIfInBounds_toArray, List.set_cons_zero, List.set_cons_succ, i64_w, i32_w]
       rfl
      refine pure_ (i := 1) (N := some 30) (v := ?_) (a' := ?_) #[true, true, false, false, false, false, false, false, false, false] rfl rfl (any_of HT_.out (by kernel_rfl)) (fun _ _ _ h => h) (Or.inl ⟨by rfl, ?_⟩) ?_ ?_
      rotate_left
      ·intro w'
       go_simp
       with_reducible rfl
      rotate_left
      ·simp only [Act.put, List.setIfInBounds_toArray, List.set_cons_zero, List.set_cons_succ, i64_w, i32_w]
       rfl
      refine pure_ (i := 5) (N := some 34) (v := ?_) (a' := ?_) #[true, true, false, false, false, true, false, false, false, false] rfl rfl (any_of HT_.out (by kernel_rfl)) (fun _ _ _ h => h) (Or.inl ⟨by rfl, ?_⟩) ?_ ?_
      rotate_left
      ·intro w'
       go_simp
       with_reducible rfl
      rotate_left
      ·simp only [Act.put, List.setIfInBounds_toArray, List.set_cons_zero, List.set_cons_succ, i64_w, i32_w]
       rfl
      refine take_ (i := 2) (N := some 31) (v := ?_) (a' := ?_) #[true, true, true, false, false, true, false, false, false, false] rfl rfl (take_ofW HT_.out HW_.out (by kernel_rfl)) (fun _ _ _ h => h) (Or.inl ⟨by rfl, ?_⟩) hHeld ?_ ?_
      rotate_left
      ·rintro w' ⟨s0, s1, s2, s3⟩
       go_simp
       with_reducible rfl
      rotate_left
      ·simp only [Act.put, List.setIfInBounds_toArray, List.set_cons_zero, List.set_cons_succ, i64_w, i32_w]
       rfl
      refine take_ (i := 6) (N := some 35) (v := ?_) (a' := ?_) #[true, true, true, false, false, true, true, false, false, false] rfl rfl (take_ofW HT_.out HW_.out (by kernel_rfl)) (fun _ _ _ h => h) (Or.inl ⟨by rfl, ?_⟩) hHeld ?_ ?_
      rotate_left
      ·rintro w' ⟨s0, s1, s2, s3⟩
       go_simp
       with_reducible rfl
      rotate_left
      ·simp only [Act.put, List.setIfInBounds_toArray, List.set_cons_zero, List.set_cons_succ, i64_w, i32_w]
       rfl
      refine one_ (i := 3) (N := some 32) #[true, true, true, true, false, true, true, false, false, false] rfl rfl (one_of HT_.out (by kernel_rfl)) (by decide) (fun K hK => ?_)
      refine goes_ Try.func44 (by kernel_rfl) rfl #[.slice A0_2 l0_2.length c0_2] (by rfl) rfl rfl ar ?_
      with_reducible refine (tillerref11_numbers.calls k1 _ _ l0_2 t383 _ ?side1 ?side2 A15.out).mono ?_
      (case side1 => repeat (first | exact (Kd.C_below HR0_2.out HB.out) | (with_reducible refine Kd.C_alloc ?_ _) | (with_reducible refine Kd.C_drewN ?_ _) | (with_reducible refine Kd.C_drew ?_)))
      (case side2 => exact HC0_2.out)
      rintro e w20 ⟨rfl, hb⟩
      refine ⟨_, rfl, ?_⟩
      have n0_ := Aside0.mk (bkb BK375.out hb)
      have n1_ := Aside0.mk (below_step bel hb)
      clear BK375
      clear HB
      have BK375 := n0_
      have HB := n1_
      clear n0_ n1_
      (try clear hb)
      (try clear hb2)
      (try clear hk)
      (try clear hi)
      refine hK.out _ _ ⟨(blk_cell BK375.out 0).trans rfl, (blk_cell BK375.out 1).trans rfl, (blk_cell BK375.out 2).trans rfl, (blk_cell BK375.out 3).trans rfl⟩ (fun hHeld => ?_)
      clear hK K
      refine norm_ (a' := ?_) ?_ ?_
      rotate_left
      ·show Act.put _ (some 32) _ = _
       simp only [Act.put, List.setIfInBounds_toArray, List.set_cons_zero, List.set_cons_succ, i64_w, i32_w]
       rfl
      refine pure_ (i := 4) (N := some 33) (v := ?_) (a' := ?_) #[true, true, true, true, true, true, true, false, false, false] rfl rfl (any_of HT_.out (by kernel_rfl)) (fun _ _ _ h => h) (Or.inl ⟨by rfl, ?_⟩) ?_ ?_
      rotate_left
      ·intro w'
       go_simp
       with_reducible rfl
      rotate_left
      ·simp only [Act.put, List.setIfInBounds_toArray, List.set_cons_zero, List.set_cons_succ, i64_w, i32_w]
       rfl
      refine one_ (i := 7) (N := some 36) #[true, true, true, true, true, true, true, true, false, false] rfl rfl (one_of HT_.out (by kernel_rfl)) (by decide) (fun K hK => ?_)
      refine goes_ Try.func44 (by kernel_rfl) rfl #[.slice A0_3 l0_3.length c0_3] (by rfl) rfl rfl ar ?_
      with_reducible refine (tillerref11_numbers.calls k1 _ _ l0_3 t384 _ ?side1 ?side2 A17.out).mono ?_
      (case side1 => repeat (first | exact (Kd.C_below HR0_3.out HB.out) | (with_reducible refine Kd.C_alloc ?_ _) | (with_reducible refine Kd.C_drewN ?_ _) | (with_reducible refine Kd.C_drew ?_)))
      (case side2 => exact HC0_3.out)
      rintro e w21 ⟨rfl, hb⟩
      refine ⟨_, rfl, ?_⟩
      have n0_ := Aside0.mk (bkb BK375.out hb)
      have n1_ := Aside0.mk (below_step bel hb)
      clear BK375
      clear HB
      have BK375 := n0_
      have HB := n1_
      clear n0_ n1_
      (try clear hb)
      (try clear hb2)
      (try clear hk)
      (try clear hi)
      refine hK.out _ _ ⟨(blk_cell BK375.out 0).trans rfl, (blk_cell BK375.out 1).trans rfl, (blk_cell BK375.out 2).trans rfl, (blk_cell BK375.out 3).trans rfl⟩ (fun hHeld => ?_)
      clear hK K
      refine norm_ (a' := ?_) ?_ ?_
      rotate_left
      ·show Act.put _ (some 36) _ = _
       simp only [Act.put, List.setIfInBounds_toArray, List.set_cons_zero, List.set_cons_succ, i64_w, i32_w]
       rfl
      refine pure_ (i := 8) (N := some 37) (v := ?_) (a' := ?_) #[true, true, true, true, true, true, true, true, true, false] rfl rfl (any_of HT_.out (by kernel_rfl)) (fun _ _ _ h => h) (Or.inl ⟨by rfl, ?_⟩) ?_ ?_
      rotate_left
      ·intro w'
       go_simp
       with_reducible rfl
      rotate_left
      ·simp only [Act.put, List.setIfInBounds_toArray, List.set_cons_zero, List.set_cons_succ, i64_w, i32_w]
       rfl
      refine pure_ (i := 9) (N := some 2) (v := ?_) (a' := ?_) #[true, true, true, true, true, true, true, true, true, true] rfl rfl (any_of HT_.out (by kernel_rfl)) (fun _ _ _ h => h) (Or.inl ⟨by rfl, ?_⟩) ?_ ?_
      rotate_left
      ·intro w'
       go_simp
       with_reducible rfl
      rotate_left
      ·simp only [Act.put, List.setIfInBounds_toArray, List.set_cons_zero, List.set_cons_succ, i64_w, i32_w]
       rfl
      refine done_ (done_of HT_.out (by kernel_rfl)) ?_
      try go_wp2
      go_ret
      exact ⟨by first | rfl | (simp [errW_none, errW_some] <;> rfl) | (simp [*, errW_none, errW_some] <;> rfl), by repeat (first | (with_reducible first | exact HB.out | apply below_alloc | apply pw_below_drewN | apply below_drew1 | refine below_set ?_ GE375.out) | exact HB.out)⟩
     ·rw [if_neg c18] at H
      exact absurd H (by simp)
    ·rw [if_neg c16] at H
     exact absurd H (by simp)

/-! ### tillerref03_Same: function 31 -/
def tillerref03_Same.l0 : Nat → List Int → List Int → Int → Int → Option (Bool)
 | 0, _, _, _, _ => none
 | k + 1, x0, x1, x12, x13 => if x13 < x12 then (if 0 ≤ x13 then (if x13 < (x0.length : Int) then (if x13 < (x1.length : Int) then (if (rd x0 x13) = (rd x1 x13) then (tillerref03_Same.l0 k x0 x1 x12 (wrap64 (x13 + 1))) else (some false)) else (none)) else (none)) else (none)) else (some true)
def tillerref03_Same.f (k : Nat) (l0 : List Int) (l1 : List Int) : Option (Bool) := if (l0.length : Int) = (l1.length : Int) then (tillerref03_Same.l0 k l0 l1 (l0.length : Int) 0) else (some false)
theorem tillerref03_Same.mono_l : ∀ k, (∀ y0 y1 y2 y3, LeO (tillerref03_Same.l0 k y0 y1 y2 y3) (tillerref03_Same.l0 (k + 1) y0 y1 y2 y3))
 | 0 => fun _ _ _ _ r h => by simp [tillerref03_Same.l0] at h
 | k + 1 => by
  have ih0 := tillerref03_Same.mono_l k
  ·intro y0 y1 y2 y3
   unfold tillerref03_Same.l0
   repeat' first
   | (with_reducible exact ih0 _ _ _ _)
   | (with_reducible exact LeO.refl _)
   | (with_reducible exact LeO.none _)
   | (with_reducible refine LeO.ite ?_ ?_)
   | (with_reducible refine LeO.bind ?_ (fun _ => ?_))
   | exact ih0 _ _ _ _
   | exact LeO.none _
   | refine LeO.ite ?_ ?_
   | refine LeO.bind ?_ (fun _ => ?_)
theorem tillerref03_Same.mono : ∀ a0 a1 k, LeO (tillerref03_Same.f k a0 a1) (tillerref03_Same.f (k + 1) a0 a1) := by
 intro a0 a1 k
 have ih0 := tillerref03_Same.mono_l k
 unfold tillerref03_Same.f
 repeat' first
   | (with_reducible exact ih0 _ _ _ _)
   | (with_reducible exact LeO.refl _)
   | (with_reducible exact LeO.none _)
   | (with_reducible refine LeO.ite ?_ ?_)
   | (with_reducible refine LeO.bind ?_ (fun _ => ?_))
   | exact ih0 _ _ _ _
   | exact LeO.none _
   | refine LeO.ite ?_ ?_
   | refine LeO.bind ?_ (fun _ => ?_)
set_option maxHeartbeats 8000000 in
set_option maxRecDepth 100000 in
theorem tillerref03_Same.calls (k : Nat) (A0 : Option Addr) (c0 : Nat) (l0 : List Int) (A1 : Option Addr) (c1 : Nat) (l1 : List Int) (r : Bool) (w : World) (hr0 : Kd.C (Kd.int .i32) w A0 l0.length l0) (hc0 : l0.length ≤ c0) (hr1 : Kd.C (Kd.int .i32) w A1 l1.length l1) (hc1 : l1.length ≤ c1) (h : tillerref03_Same.f k l0 l1 = some r) :
  Calls Try.prog 31 #[.slice A0 l0.length c0, .slice A1 l1.length c1] w fun e w' => e = .returned (.bool r) ∧ Drawn0 w w' := by
 have HR0 := Aside0.mk hr0
 have HC0 := Aside0.mk hc0
 clear hr0 hc0
 have HR1 := Aside0.mk hr1
 have HC1 := Aside0.mk hc1
 clear hr1 hc1
 have H : (if (l0.length : Int) = (l1.length : Int) then (tillerref03_Same.l0 k l0 l1 (l0.length : Int) 0) else (some false)) = some r := h
 clear h
 by_cases c3 : (l0.length : Int) = (l1.length : Int)
 ·rw [if_pos c3] at H
  have c3b0 : ((l0.length : Int) == (l1.length : Int)) = true := beq_iff_eq.mpr c3
  have c3b1 : ((l0.length : Int) != (l1.length : Int)) = false := bne_eq_false_iff_eq.mpr c3
  have c3b2 : (l0.length == l1.length) = true := by first | simpa using c3 | (simp at c3 ⊢; omega)
  clear c3
  have H' := Aside0.mk H
  clear H
  go_enter Try.func31, Try.ntmps31
  go_wp2
  repeat (go_quiet (fail); try go_wp2)
  go_loopg [13] k (fun kq v13 w' => ∃ (x13_1 : Int), v13 = .int .i64 x13_1 ∧ Aside0 (tillerref03_Same.l0 kq l0 l1 (l0.length : Int) x13_1 = some r) ∧ Aside0 (kq ≤ k) ∧ Drawn0 w w')
  case atStart => exact ⟨(0), rs, H', ⟨Nat.le_refl _⟩, by repeat (first | exact Drawn0.refl _ | apply Drawn0.step)⟩
  case round =>
   clear H'
   try clear c1
   try clear p2
   try clear c3
   try clear c3b0
   try clear c3b1
   try clear c3b2
   obtain ⟨x13_1, rfl, HA, HK1, ⟨m1, rfl⟩⟩ := hrel
   cases gk with
   | zero => exact absurd HA.out (by simp [tillerref03_Same.l0])
   | succ k1 =>
    have H := HA.out
    clear HA
    simp only [tillerref03_Same.l0] at H
    by_cases c4 : x13_1 < (l0.length : Int)
    ·rw [if_pos c4] at H
     have c4b0 : decide (x13_1 < (l0.length : Int)) = true := decide_eq_true c4
     clear c4
     by_cases c5 : 0 ≤ x13_1
     ·rw [if_pos c5] at H
      have c5b0 : decide (0 ≤ x13_1) = true := decide_eq_true c5
      clear c5
      by_cases c6 : x13_1 < (l0.length : Int)
      ·rw [if_pos c6] at H
       have c6b0 : decide (x13_1 < (l0.length : Int)) = true := decide_eq_true c6
       clear c6
       by_cases c7 : x13_1 < (l1.length : Int)
       ·rw [if_pos c7] at H
        have c7b0 : decide (x13_1 < (l1.length : Int)) = true := decide_eq_true c7
        clear c7
        by_cases c8 : (rd l0 x13_1) = (rd l1 x13_1)
        ·rw [if_pos c8] at H
         have c8b0 : ((rd l0 x13_1) == (rd l1 x13_1)) = true := beq_iff_eq.mpr c8
         have c8b1 : ((rd l0 x13_1) != (rd l1 x13_1)) = false := bne_eq_false_iff_eq.mpr c8
         clear c8
         have H' := Aside0.mk H
         clear H
         have p385 : 0 ≤ (x13_1 : Int) := of_decide_eq_true asm
         have q385 : x13_1 < (l0.length : Int) := of_decide_eq_true asm
         obtain ⟨ad385, e385, hx385_0⟩ := Kd.at_int HR0.out x13_1 p385 q385
         cases e385
         replace p385 := eq_true p385
         replace q385 := eq_true q385
         have p386 : 0 ≤ (x13_1 : Int) := of_decide_eq_true asm
         have q386 : x13_1 < (l1.length : Int) := of_decide_eq_true asm
         obtain ⟨ad386, e386, hx386_0⟩ := Kd.at_int HR1.out x13_1 p386 q386
         cases e386
         replace p386 := eq_true p386
         replace q386 := eq_true q386
         go_wp2
         repeat (go_quiet (fail); try go_wp2)
         go_roundg k1
         case measure => have := HK1.out; omega
         case rel => exact ⟨(wrap64 (x13_1 + 1)), rs, H', ⟨by have := HK1.out; omega⟩, by repeat (first | exact Drawn0.refl _ | apply Drawn0.step)⟩
        ·rw [if_neg c8] at H
         have c8b0 : ((rd l0 x13_1) == (rd l1 x13_1)) = false := beq_eq_false_iff_ne.mpr c8
         have c8b1 : ((rd l0 x13_1) != (rd l1 x13_1)) = true := bne_iff_ne.mpr c8
         obtain rfl := Option.some.inj H
         have p385 : 0 ≤ (x13_1 : Int) := of_decide_eq_true asm
         have q385 : x13_1 < (l0.length : Int) := of_decide_eq_true asm
         obtain ⟨ad385, e385, hx385_0⟩ := Kd.at_int HR0.out x13_1 p385 q385
         cases e385
         replace p385 := eq_true p385
         replace q385 := eq_true q385
         have p386 : 0 ≤ (x13_1 : Int) := of_decide_eq_true asm
         have q386 : x13_1 < (l1.length : Int) := of_decide_eq_true asm
         obtain ⟨ad386, e386, hx386_0⟩ := Kd.at_int HR1.out x13_1 p386 q386
         cases e386
         replace p386 := eq_true p386
         replace q386 := eq_true q386
         go_wp2
         repeat (go_quiet (fail); try go_wp2)
         go_ret
         exact ⟨by first | rfl | (simp; done) | (simp [*]; done), by repeat (first | exact Drawn0.refl _ | apply Drawn0.step)⟩
       ·rw [if_neg c7] at H
        exact absurd H (by simp)
      ·rw [if_neg c6] at H
       exact absurd H (by simp)
     ·rw [if_neg c5] at H
      exact absurd H (by simp)
    ·rw [if_neg c4] at H
     have c4b0 : decide (x13_1 < (l0.length : Int)) = false := decide_eq_false c4
     clear c4
     obtain rfl := Option.some.inj H
     go_wp2
     repeat (go_quiet (fail); try go_wp2)
     go_ret
     exact ⟨by first | rfl | (simp; done) | (simp [*]; done), by repeat (first | exact Drawn0.refl _ | apply Drawn0.step)⟩
 ·rw [if_neg c3] at H
  have c3b0 : ((l0.length : Int) == (l1.length : Int)) = false := beq_eq_false_iff_ne.mpr c3
  have c3b1 : ((l0.length : Int) != (l1.length : Int)) = true := bne_iff_ne.mpr c3
  have c3b2 : (l0.length == l1.length) = false := by first | simpa using c3 | (simp at c3 ⊢; omega)
  obtain rfl := Option.some.inj H
  go_enter Try.func31, Try.ntmps31
  go_wp2
  repeat (go_quiet (fail); try go_wp2)
  go_ret
  exact ⟨by first | rfl | (simp; done) | (simp [*]; done), by repeat (first | exact Drawn0.refl _ | apply Drawn0.step)⟩

end Go.Proofs.Ytepbebelbcbciaa.Q
