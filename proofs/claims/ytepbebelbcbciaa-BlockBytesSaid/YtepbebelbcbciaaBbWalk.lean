/- The walk of the statement BlockBytes as it comes out true: the program's call comes to what the plain function says. No condition but those that the theorem names. -/
import Derived.Test.YtepbebelbcbciaaBbDef
import Derived.Test.YtepbebelbcbciaaAwake11
import Derived.Test.YtepbebelbcbciaaFlowUse
import Derived.Test.YtepbebelbcbciaaZWords
namespace Go.Proofs.Ytepbebelbcbciaa.Q
open Go.RowKit Go.Proofs.YtepbebelbcbciaaW.PrintWords Go.Proofs.YtepbebelbcbciaaW.PrintLast Go.Proofs.YtepbebelbcbciaaW.PrintMore
attribute [local go_sem] max2_int min2_int max_two min_two max_three min_three max_four min_four
set_option linter.unusedVariables false
set_option linter.unusedSimpArgs false
set_option maxHeartbeats 8000000 in
set_option maxRecDepth 100000 in
theorem tillerlaw11_BlockBytes.calls (k : Nat) (a0_0 : Int) (a0_1 : Int) (a0_2 : Int) (a0_3 : Int) (a0_4 : Int) (Aa1 : Option Addr) (ca1 : Nat) (l1_0 : List Int) (a1_1 : Int) (Aa2 : Option Addr) (ca2 : Nat) (l1_2 : List (List (List Int))) (Aa3 : Option Addr) (ca3 : Nat) (l1_3 : List (List (List Int))) (a2 : ByteArray) (r : Bool) (w : World) (hr1_0 : Kd.C (Kd.int .i64) w Aa1 l1_0.length l1_0) (hc1_0 : l1_0.length ≤ ca1) (hr1_2 : Kd.C (Kd.slice 61 (Kd.slice 72 (Kd.int .i32))) w Aa2 l1_2.length l1_2) (hc1_2 : l1_2.length ≤ ca2) (hr1_3 : Kd.C (Kd.slice 61 (Kd.slice 72 (Kd.int .i32))) w Aa3 l1_3.length l1_3) (hc1_3 : l1_3.length ≤ ca3) (h : tillerlaw11_BlockBytes.f k a0_0 a0_1 a0_2 a0_3 a0_4 l1_0 a1_1 l1_2 l1_3 a2 = some r) (hrt : r = true := by rfl) :
  Calls Try.prog 3 #[.agg #[.int .i64 a0_0, .int .i64 a0_1, .int .i64 a0_2, .int .i64 a0_3, .int .i64 a0_4], .agg #[.slice Aa1 l1_0.length ca1, .int .i64 a1_1, .slice Aa2 l1_2.length ca2, .slice Aa3 l1_3.length ca3], .string a2] w fun e w' => e = .returned (.bool r) ∧ Below w.heap.size w w' := by
  subst hrt
  unfold tillerlaw11_BlockBytes.f at h
  rw [Option.bind_eq_some_iff] at h
  obtain ⟨⟨t1, t2, t3, t4⟩, htold, h⟩ := h
  rw [Option.bind_eq_some_iff] at h
  obtain ⟨⟨o1, o2, o3, o4⟩, hof, h⟩ := h
  rw [Option.bind_eq_some_iff] at h
  obtain ⟨⟨s, e⟩, hby, h⟩ := h
  rw [Option.bind_eq_some_iff] at h
  obtain ⟨e', hck, h⟩ := h
  rw [Option.bind_eq_some_iff] at h
  obtain ⟨aw, haw, h⟩ := h
  dsimp only at hof hby hck h
  have key : aw = true ∧ e = e' ∧ ∃ b0, (e' = 0 → b0 = false) ∧ (e' ≠ 0 → b0 = (s.toList != ([] : List UInt8))) ∧ tillerlaw11_BlockBytes.j0 k a2 s e' b0 a0_0 a0_1 a0_2 a0_3 a0_4 t1 t2 t3 t4 = some true := by
    have hj : ∀ x : Nat, tillerlaw11_BlockBytes.j0 x a2 s e' true a0_0 a0_1 a0_2 a0_3 a0_4 t1 t2 t3 t4 ≠ some true := by
      intro x hx
      cases x with
      | zero => simp [tillerlaw11_BlockBytes.j0] at hx
      | succ x => simp [tillerlaw11_BlockBytes.j0] at hx
    by_cases ha : aw = true
    · rw [if_pos ha] at h
      by_cases he : e = e'
      · rw [if_pos he] at h
        by_cases h0 : e' = 0
        · rw [if_pos h0] at h
          exact ⟨ha, he, false, fun _ => rfl, fun n => absurd h0 n, h⟩
        · rw [if_neg h0] at h
          exact ⟨ha, he, _, fun n => absurd n h0, fun _ => rfl, h⟩
      · rw [if_neg he] at h
        exact absurd h (hj _)
    · rw [if_neg ha] at h
      exact absurd h (hj _)
  obtain ⟨rfl, rfl, b0, hb0, hb1, h⟩ := key
  have hb : b0 = false := by
    cases b0 with
    | false => rfl
    | true =>
      cases k with
      | zero => simp [tillerlaw11_BlockBytes.j0] at h
      | succ k => simp [tillerlaw11_BlockBytes.j0] at h
  subst hb
  obtain ⟨k1, g, hg1, hg2, h⟩ : ∃ (k1 : Nat) (g : Bool), (g = true → e = 0 ∧ a0_4 ≤ 4 ∧ a0_1 ≤ 32 ∧ a0_0 ≤ 64) ∧ (g = false → e = 0 → a0_4 ≤ 4 → a0_1 ≤ 32 → ¬ a0_0 ≤ 64) ∧ tillerlaw11_BlockBytes.j1 k1 a2 s g a0_0 a0_1 a0_2 a0_3 a0_4 t1 t2 t3 t4 = some true := by
    cases k with
    | zero => simp [tillerlaw11_BlockBytes.j0] at h
    | succ k =>
      simp only [tillerlaw11_BlockBytes.j0] at h
      rw [if_neg (by decide)] at h
      by_cases c1 : e = 0
      · rw [if_pos c1] at h
        by_cases c2 : a0_4 ≤ 4
        · rw [if_pos c2] at h
          by_cases c3 : a0_1 ≤ 32
          · rw [if_pos c3] at h
            exact ⟨k, _, fun hh => ⟨c1, c2, c3, of_decide_eq_true hh⟩, fun hh _ _ _ => of_decide_eq_false hh, h⟩
          · rw [if_neg c3] at h
            exact ⟨k, false, fun hh => (by cases hh), fun _ _ _ hh => absurd hh c3, h⟩
        · rw [if_neg c2] at h
          exact ⟨k, false, fun hh => (by cases hh), fun _ _ hh => absurd hh c2, h⟩
      · rw [if_neg c1] at h
        exact ⟨k, false, fun hh => (by cases hh), fun _ hh => absurd hh c1, h⟩
  obtain ⟨k2, hm, h⟩ : ∃ k2 : Nat, (g = true → ∃ x1 x2 x3 x4 u m1 m2 m3 m4, block_Read.f k2 a0_0 a0_1 a0_2 a0_3 a0_4 s = some (x1, x2, x3, x4, 0) ∧ tillerref11_Bytes.f k2 t1 t2 t3 t4 = some u ∧ s.toList = u.toList ∧ tillerlaw11_Told.f k2 x1 x2 x3 x4 = some (m1, m2, m3, m4) ∧ tillerref11_Same.f k2 m1 m2 m3 m4 t1 t2 t3 t4 = some true) ∧ tillerlaw11_BlockBytes.j2 k2 a2 a0_0 a0_1 a0_2 a0_3 a0_4 = some true := by
    cases k1 with
    | zero => simp [tillerlaw11_BlockBytes.j1] at h
    | succ k1 =>
      simp only [tillerlaw11_BlockBytes.j1] at h
      cases g with
      | false => exact ⟨k1, fun hh => (by cases hh), by simpa using h⟩
      | true =>
        rw [if_pos rfl, Option.bind_eq_some_iff] at h
        obtain ⟨⟨x1, x2, x3, x4, x5⟩, h1, h⟩ := h
        rw [Option.bind_eq_some_iff] at h
        obtain ⟨u, h2, h⟩ := h
        by_cases c1 : s.toList = u.toList
        · rw [if_pos c1] at h
          by_cases c2 : x5 = 0
          · rw [if_pos c2, Option.bind_eq_some_iff] at h
            obtain ⟨⟨m1, m2, m3, m4⟩, h3, h⟩ := h
            rw [Option.bind_eq_some_iff] at h
            obtain ⟨b, h4, h⟩ := h
            by_cases c3 : b = true
            · rw [if_pos c3] at h
              exact ⟨k1, fun _ => ⟨x1, x2, x3, x4, u, m1, m2, m3, m4, c2 ▸ h1, h2, c1, h3, c3 ▸ h4⟩, h⟩
            · rw [if_neg c3] at h
              simp at h
          · rw [if_neg c2] at h
            simp at h
        · rw [if_neg c1] at h
          simp at h
  obtain ⟨k3, s2, hs1, hs2, h⟩ : ∃ (k3 : Nat) (s2 : ByteArray), ((a2.size : Int) > 3000 → s2 = a2.extract 0 3000) ∧ (¬ (a2.size : Int) > 3000 → s2 = a2) ∧ tillerlaw11_BlockBytes.j3 k3 s2 a0_0 a0_1 a0_2 a0_3 a0_4 = some true := by
    cases k2 with
    | zero => simp [tillerlaw11_BlockBytes.j2] at h
    | succ k2 =>
      simp only [tillerlaw11_BlockBytes.j2] at h
      by_cases c1 : (a2.size : Int) > 3000
      · rw [if_pos c1, if_pos (by decide), if_pos (by omega)] at h
        exact ⟨k2, _, fun _ => rfl, fun n => absurd c1 n, h⟩
      · rw [if_neg c1] at h
        exact ⟨k2, _, fun n => absurd n c1, fun _ => rfl, h⟩
  obtain ⟨k4, y1, y2, y3, y4, y5, z1, z2, z3, z4, p1, p2, p3, p4, hy, hz, hp, hsm, hu⟩ : ∃ (k4 : Nat) (y1 : List Int) (y2 : Int) (y3 y4 : List (List (List Int))) (y5 : Int) (z1 : List Int) (z2 : Int) (z3 z4 : List (List (List Int))) (p1 : List Int) (p2 : Int) (p3 p4 : List (List (List Int))), block_Read.f k4 a0_0 a0_1 a0_2 a0_3 a0_4 s2 = some (y1, y2, y3, y4, y5) ∧ tillerref11_Read.f k4 a0_0 a0_1 a0_2 a0_3 a0_4 s2 = some (z1, z2, z3, z4, y5) ∧ tillerlaw11_Told.f k4 y1 y2 y3 y4 = some (p1, p2, p3, p4) ∧ tillerref11_Same.f k4 p1 p2 p3 p4 z1 z2 z3 z4 = some true ∧ (y5 = 0 → ∃ u, tillerref11_Bytes.f k4 z1 z2 z3 z4 = some u ∧ u.toList = s2.toList) := by
    cases k3 with
    | zero => simp [tillerlaw11_BlockBytes.j3] at h
    | succ k3 =>
      simp only [tillerlaw11_BlockBytes.j3] at h
      rw [Option.bind_eq_some_iff] at h
      obtain ⟨⟨y1, y2, y3, y4, y5⟩, h1, h⟩ := h
      rw [Option.bind_eq_some_iff] at h
      obtain ⟨⟨z1, z2, z3, z4, z5⟩, h2, h⟩ := h
      by_cases c1 : y5 = z5
      · rw [if_pos c1, Option.bind_eq_some_iff] at h
        obtain ⟨⟨p1, p2, p3, p4⟩, h3, h⟩ := h
        rw [Option.bind_eq_some_iff] at h
        obtain ⟨b, h4, h⟩ := h
        subst c1
        by_cases c3 : b = true
        · rw [if_pos c3] at h
          refine ⟨k3, y1, y2, y3, y4, y5, z1, z2, z3, z4, p1, p2, p3, p4, h1, h2, h3, c3 ▸ h4, fun h0 => ?_⟩
          rw [if_pos h0, Option.bind_eq_some_iff] at h
          obtain ⟨u, h5, h6⟩ := h
          exact ⟨u, h5, by simpa using h6⟩
        · rw [if_neg c3] at h
          simp at h
      · rw [if_neg c1] at h
        simp at h
  have G1 := Aside0.mk (And.intro hg1 hg2)
  have GM := Aside0.mk hm
  have S2 := Aside0.mk (And.intro hs1 hs2)
  have HY := Aside0.mk hy
  have HZ := Aside0.mk hz
  have HP := Aside0.mk hp
  have HSM := Aside0.mk hsm
  have HU := Aside0.mk hu
  clear hg1 hg2 hm hs1 hs2 hy hz hp hsm hu
  have HT := Aside0.mk htold
  have HO := Aside0.mk hof
  have HBY := Aside0.mk hby
  have HCK := Aside0.mk hck
  have HAW := Aside0.mk haw
  have HB0 := Aside0.mk (And.intro hb0 hb1)
  have R0 := Aside0.mk hr1_0
  have R2 := Aside0.mk hr1_2
  have R3 := Aside0.mk hr1_3
  have Q0 := Aside0.mk hc1_0
  have Q2 := Aside0.mk hc1_2
  have Q3 := Aside0.mk hc1_3
  clear htold hof hby hck haw hb0 hb1 h hr1_0 hr1_2 hr1_3 hc1_0 hc1_2 hc1_3
  go_enter Try.func3, Try.ntmps3
  go_upto_region 2 with (first | ((with_reducible refine gate_dst (N := 3) rfl ?_); refine bxe (N := 3) (cs := #[.int .i64 a0_0, .int .i64 a0_1, .int .i64 a0_2, .int .i64 a0_3, .int .i64 a0_4]) (t := 23) ?_; intro g3 hg w3 hb hw; have Kg3 := Aside0.mk hb; have Bg3 := Aside0.mk hw; have Gg3 := Aside0.mk (Nat.le_of_eq hg.symm); clear hg hb hw; obtain ⟨hcg30, hcg31, hcg32, hcg33, hcg34, hfg30, hfg31, hfg32, hfg33, hfg34⟩ := cq5 Kg3.out) | ((with_reducible refine gate_dst (N := 4) rfl ?_); refine bxe (N := 4) (cs := #[.slice Aa1 l1_0.length ca1, .int .i64 a1_1, .slice Aa2 l1_2.length ca2, .slice Aa3 l1_3.length ca3]) (t := 29) ?_; intro g4 hg w4 hb hw; have Kg4 := Aside0.mk hb; have Bg4 := Aside0.mk hw; have Gg4 := Aside0.mk (Nat.le_of_eq hg.symm); clear hg hb hw; obtain ⟨hcg40, hcg41, hcg42, hcg43, hfg40, hfg41, hfg42, hfg43⟩ := cq4 Kg4.out) | ((with_reducible refine gate_callee (f := 11) rfl ?_); refine goesL_ _ rfl rfl Try.func11 (by kernel_rfl) rfl #[.agg #[.slice Aa1 l1_0.length ca1, .int .i64 a1_1, .slice Aa2 l1_2.length ca2, .slice Aa3 l1_3.length ca3]] rfl ar ?_; (with_reducible refine (tillerlaw11_Told.calls k Aa1 ca1 l1_0 a1_1 Aa2 ca2 l1_2 Aa3 ca3 l1_3 t1 t2 t3 t4 _ (cl R0.out) Q0.out (cl R2.out) Q2.out (cl R3.out) Q3.out HT.out).mono ?_); rintro e w5 ⟨v1, v2, v3, rfl, hv1, hv2, hv3, hb⟩; obtain ⟨At1, ct1, rfl⟩ := Kd.R_slice hv1; obtain ⟨At2, ct2, rfl⟩ := Kd.R_slice hv2; obtain ⟨At3, ct3, rfl⟩ := Kd.R_slice hv3; refine ⟨_, rfl, ?_⟩; have T1 := Aside0.mk hv1; have T2 := Aside0.mk hv2; have T3 := Aside0.mk hv3; have B5 := Aside0.mk hb; clear hv1 hv2 hv3 hb) | ((with_reducible refine gate_dst (N := 7) rfl ?_); refine bxe (N := 7) (cs := #[.slice none 0 0, .int .i64 0, .slice none 0 0, .slice none 0 0]) (t := 31) ?_; intro g7 hg w7 hb hw; have Kg7 := Aside0.mk hb; have Bg7 := Aside0.mk hw; have Gg7 := Aside0.mk (Nat.le_of_eq hg.symm); clear hg hb hw; obtain ⟨hcg70, hcg71, hcg72, hcg73, hfg70, hfg71, hfg72, hfg73⟩ := cq4 Kg7.out))
  clear hcg30 hcg31 hcg32 hcg33 hcg34 hfg30 hfg31 hfg32 hfg33 hfg34 hcg40 hcg41 hcg42 hcg43 hfg40 hfg41 hfg42 hfg43
  clear hcg70 hcg71 hcg72 hcg73 hfg70 hfg71 hfg72 hfg73
  have k_ := Aside0.mk (blk_put (blk_put (blk_put (blk_put Kg7.out 0 (.slice At1 t1.length ct1) rfl) 1 (.int .i64 t2) rfl) 2 (.slice At2 t3.length ct2) rfl) 3 (.slice At3 t4.length ct3) rfl)
  have b_ := Aside0.mk (below_set (j := 3) (v := .slice At3 t4.length ct3) (below_set (j := 2) (v := .slice At2 t3.length ct2) (below_set (j := 1) (v := .int .i64 t2) (below_set (j := 0) (v := .slice At1 t1.length ct1) Bg7.out Gg7.out) Gg7.out) Gg7.out) Gg7.out)
  clear Kg7 Bg7
  generalize (((w7.setCell ⟨g7, 0, none⟩ (.slice At1 t1.length ct1)).setCell ⟨g7, 1, none⟩ (.int .i64 t2)).setCell ⟨g7, 2, none⟩ (.slice At2 t3.length ct2)).setCell ⟨g7, 3, none⟩ (.slice At3 t4.length ct3) = w8 at k_ b_ ⊢
  have Kg7 := k_
  have Bg7 := b_
  clear k_ b_
  refine region_chain 9 9 (B := [0, 0, 2, 7, 15, 31, 31, 63, 255]) (by kernel_rfl) rfl (by kernel_rfl) (by kernel_rfl) ?_
  refine chn_pure (fun _ => rfl) (f := ?f1) (A' := ?Ap1) ?hrun1 ?hmask1 ?hind1 ?hA1 ?hrest1
  case hrun1 =>
    intro v W hW
    have k3 : W.heap[g3]? = some (.cells #[.int .i64 a0_0, .int .i64 a0_1, .int .i64 a0_2, .int .i64 a0_3, .int .i64 a0_4] 23 (0, 0)) := bl Kg3.out
    obtain ⟨x0, x1, x2, x3, x4, _⟩ := cq5 k3
    go_simp
    with_reducible rfl
  case hmask1 => exact fun _ => rfl
  case hind1 => exact fun _ _ => rfl
  case hA1 =>
    intro v
    simp only [Act.put, List.setIfInBounds_toArray, List.set_cons_zero, List.set_cons_succ]
    rfl
  refine chn_pure (fun _ => rfl) (f := ?f2) (A' := ?Ap2) ?hrun2 ?hmask2 ?hind2 ?hA2 ?hrest2
  case hrun2 =>
    intro v W hW
    have k7 : W.heap[g7]? = some (.cells #[.slice At1 t1.length ct1, .int .i64 t2, .slice At2 t3.length ct2, .slice At3 t4.length ct3] 31 (0, 0)) := bl Kg7.out
    obtain ⟨x0, x1, x2, x3, _⟩ := cq4 k7
    go_simp
    with_reducible rfl
  case hmask2 => exact fun _ => rfl
  case hind2 => exact fun _ _ => rfl
  case hA2 =>
    intro v
    simp only [Act.put, List.setIfInBounds_toArray, List.set_cons_zero, List.set_cons_succ]
    rfl
  refine chn_call 13 rfl (fun _ => rfl) Try.func13 (by kernel_rfl) rfl (fun v => v 2) (fun y W W' => ∃ (A1 : Option Addr) (c1 : Nat) (A2 : Option Addr) (c2 : Nat) (A3 : Option Addr) (c3 : Nat), y = .agg #[.slice A1 o1.length c1, .int .i64 o2, .slice A2 o3.length c2, .slice A3 o4.length c3] ∧ Kd.R (Kd.int .i64) 3 W' W.heap.size (fun _ => True) (.slice A1 o1.length c1) o1 ∧ Kd.R (Kd.slice 61 (Kd.slice 72 (Kd.int .i32))) 62 W' W.heap.size (fun _ => True) (.slice A2 o3.length c2) o3 ∧ Kd.R (Kd.slice 61 (Kd.slice 72 (Kd.int .i32))) 62 W' W.heap.size (fun _ => True) (.slice A3 o4.length c3) o4) (fun v => #[.agg #[.slice At1 t1.length ct1, .int .i64 t2, .slice At2 t3.length ct2, .slice At3 t4.length ct3]]) (fun _ => ar) (fun _ => rfl) (A' := ?Ap3) ?hA3 ?hcall3 ?hrest3
  case hA3 =>
    intro v
    simp only [Act.put, List.setIfInBounds_toArray, List.set_cons_zero, List.set_cons_succ]
    rfl
  case hcall3 =>
    intro v W0 W1 W hW hd
    refine (tillerlaw11_Of.calls k At1 ct1 t1 t2 At2 ct2 t3 At3 ct3 t4 o1 o2 o3 o4 W (cl (Kd.R_reads' T1.out).2.2) (Kd.R_reads' T1.out).2.1 (cl (Kd.R_reads' T2.out).2.2) (Kd.R_reads' T2.out).2.1 (cl (Kd.R_reads' T3.out).2.2) (Kd.R_reads' T3.out).2.1 HO.out).mono ?_
    rintro e_ W' ⟨y1, y2, y3, rfl, h1, h2, h3, hb⟩
    obtain ⟨A1, c1, rfl⟩ := Kd.R_slice h1
    obtain ⟨A2, c2, rfl⟩ := Kd.R_slice h2
    obtain ⟨A3, c3, rfl⟩ := Kd.R_slice h3
    exact ⟨_, rfl, ⟨A1, c1, A2, c2, A3, c3, rfl, h1, Kd.R_mono h2 (fun _ _ => trivial), Kd.R_mono h3 (fun _ _ => trivial)⟩, hb⟩
  refine chn_call 12 rfl (fun _ => rfl) Try.func12 (by kernel_rfl) rfl (fun v => .tuple #[.string s, .int .i64 e]) (fun y W W' => True) (fun v => #[.agg #[.int .i64 a0_0, .int .i64 a0_1, .int .i64 a0_2, .int .i64 a0_3, .int .i64 a0_4], v 2]) (fun _ => ar) (fun _ => rfl) (A' := ?Ap4) ?hA4 ?hcall4 ?hrest4
  case hA4 =>
    intro v
    simp only [Act.put, List.setIfInBounds_toArray, List.set_cons_zero, List.set_cons_succ]
    rfl
  case hcall4 =>
    intro v W0 W1 W hW hd
    have f2 := hd 2 (by decide) rfl
    obtain ⟨A1, c1, A2, c2, A3, c3, ey, h1, h2, h3⟩ := f2.fact
    have b2 := f2.b2
    rw [ey]
    refine (block_Bytes.calls k a0_0 a0_1 a0_2 a0_3 a0_4 A1 c1 o1 o2 _ A2 c2 o3 _ A3 c3 o4 s e W (Kd.C_below (Kd.R_reads' h1).2.2 b2) (Kd.R_reads' h1).2.1 (Kd.V_below (Kd.R_V h2) b2) (Kd.V_below (Kd.R_V h3) b2) HBY.out).mono ?_
    rintro e_ W' ⟨rfl, hb⟩
    exact ⟨undef, rfl, trivial, hb⟩
  refine chn_pure (fun _ => rfl) (f := ?f5) (A' := ?Ap5) ?hrun5 ?hmask5 ?hind5 ?hA5 ?hrest5
  case hrun5 =>
    intro v W hW
    go_simp
    with_reducible rfl
  case hmask5 => exact fun _ => rfl
  case hind5 => exact fun _ _ => rfl
  case hA5 =>
    intro v
    simp only [Act.put, List.setIfInBounds_toArray, List.set_cons_zero, List.set_cons_succ]
    rfl
  refine chn_pure (fun _ => rfl) (f := ?f6) (A' := ?Ap6) ?hrun6 ?hmask6 ?hind6 ?hA6 ?hrest6
  case hrun6 =>
    intro v W hW
    go_simp
    with_reducible rfl
  case hmask6 => exact fun _ => rfl
  case hind6 => exact fun _ _ => rfl
  case hA6 =>
    intro v
    simp only [Act.put, List.setIfInBounds_toArray, List.set_cons_zero, List.set_cons_succ]
    rfl
  refine chn_pure (fun _ => rfl) (f := ?f7) (A' := ?Ap7) ?hrun7 ?hmask7 ?hind7 ?hA7 ?hrest7
  case hrun7 =>
    intro v W hW
    go_simp
    with_reducible rfl
  case hmask7 => exact fun _ => rfl
  case hind7 => exact fun _ _ => rfl
  case hA7 =>
    intro v
    simp only [Act.put, List.setIfInBounds_toArray, List.set_cons_zero, List.set_cons_succ]
    rfl
  refine chn_pure (fun _ => rfl) (f := ?f8) (A' := ?Ap8) ?hrun8 ?hmask8 ?hind8 ?hA8 ?hrest8
  case hrun8 =>
    intro v W hW
    go_simp
    with_reducible rfl
  case hmask8 => exact fun _ => rfl
  case hind8 => exact fun _ _ => rfl
  case hA8 =>
    intro v
    simp only [Act.put, List.setIfInBounds_toArray, List.set_cons_zero, List.set_cons_succ]
    rfl
  refine chn_pure (fun _ => rfl) (f := ?f9) (A' := ?Ap9) ?hrun9 ?hmask9 ?hind9 ?hA9 ?hrest9
  case hrun9 =>
    intro v W hW
    go_simp
    with_reducible rfl
  case hmask9 => exact fun _ => rfl
  case hind9 => exact fun _ _ => rfl
  case hA9 =>
    intro v
    simp only [Act.put, List.setIfInBounds_toArray, List.set_cons_zero, List.set_cons_succ]
    rfl
  intro v W0 W1 W hW hF _
  have B9 := Aside0.mk (show Below w8.heap.size w8 W from ⟨hW.os, hW.tape, hW.output, hW.size, hW.block⟩)
  clear hF hW
  refine wpList_nil ?_
  dsimp only
  have k3 : W.heap[g3]? = some (.cells #[.int .i64 a0_0, .int .i64 a0_1, .int .i64 a0_2, .int .i64 a0_3, .int .i64 a0_4] 23 (0, 0)) := bl Kg3.out
  have k7 : W.heap[g7]? = some (.cells #[.slice At1 t1.length ct1, .int .i64 t2, .slice At2 t3.length ct2, .slice At3 t4.length ct3] 31 (0, 0)) := bl Kg7.out
  obtain ⟨x0, x1, x2, x3, x4, xf0, xf1, xf2, xf3, xf4⟩ := cq5 k3
  obtain ⟨z0, z1, z2, z3, zf0, zf1, zf2, zf3⟩ := cq4 k7
  generalize v 2 = vo
  go_upto_region 4 with (first | ((with_reducible refine gate_callee (f := 14) rfl ?_); refine goesL_ _ rfl rfl Try.func14 (by kernel_rfl) rfl #[.agg #[.int .i64 a0_0, .int .i64 a0_1, .int .i64 a0_2, .int .i64 a0_3, .int .i64 a0_4], .agg #[.slice At1 t1.length ct1, .int .i64 t2, .slice At2 t3.length ct2, .slice At3 t4.length ct3]] rfl ar ?_; (with_reducible refine (tillerref11_Check.calls k a0_0 a0_1 a0_2 a0_3 a0_4 At1 ct1 t1 t2 At2 ct2 t3 At3 ct3 t4 e _ (cl (Kd.R_reads' T1.out).2.2) (Kd.R_reads' T1.out).2.1 (cl (Kd.R_reads' T2.out).2.2) (Kd.R_reads' T2.out).2.1 (cl (Kd.R_reads' T3.out).2.2) (Kd.R_reads' T3.out).2.1 HCK.out).mono ?_); rintro e_ w10 ⟨rfl, hb⟩; refine ⟨_, rfl, ?_⟩; have B10 := Aside0.mk hb; clear hb))
  clear x0 x1 x2 x3 x4 xf0 xf1 xf2 xf3 xf4 z0 z1 z2 z3 zf0 zf1 zf2 zf3
  go_cut [43] (fun v43 wc => v43 = .bool false ∧ Aside0 (Below w10.heap.size w10 wc))
  case first =>
    by_cases c1 : e = 0
    · have q1 : (e == 0) = true := beq_iff_eq.mpr c1
      have q2 : (e != 0) = false := bne_eq_false_iff_eq.mpr c1
      clear c1
      go_wp2_with (first | ((with_reducible refine gate_callee (f := 15) rfl ?_); refine goesL_ _ rfl rfl Try.func15 (by kernel_rfl) rfl #[] rfl ar ?_; (with_reducible refine (tillerlaw11_awake.calls k true _ HAW.out).mono ?_); rintro e_ w11 ⟨rfl, hb⟩; refine ⟨_, rfl, ?_⟩; have B11 := Aside0.mk hb; clear hb))
      go_meet
      case rel => exact ⟨by first | rfl | (simp; done), ⟨B11.out⟩⟩
    · have q0 : (s.toList != ([] : List UInt8)) = false := (HB0.out.2 c1).symm
      have q1 : (e == 0) = false := beq_eq_false_iff_ne.mpr c1
      have q2 : (e != 0) = true := bne_iff_ne.mpr c1
      clear c1
      go_wp2_with (first | ((with_reducible refine gate_callee (f := 15) rfl ?_); refine goesL_ _ rfl rfl Try.func15 (by kernel_rfl) rfl #[] rfl ar ?_; (with_reducible refine (tillerlaw11_awake.calls k true _ HAW.out).mono ?_); rintro e_ w11 ⟨rfl, hb⟩; refine ⟨_, rfl, ?_⟩; have B11 := Aside0.mk hb; clear hb))
      go_meet
      case rel => exact ⟨by first | rfl | (simp; done) | (simp [*]; done) | (simp; exact bne_eq_false_iff_eq.mp q0), ⟨B11.out⟩⟩
  case rest =>
  obtain ⟨rfl, B11⟩ := hcut
  go_upto_region 6 with (fail)
  go_cut [60] (fun v60 wc => v60 = .bool g ∧ Aside0 (Below w10.heap.size w10 wc))
  case first =>
    have B12 := B11
    have k3 : wc.heap[g3]? = some (.cells #[.int .i64 a0_0, .int .i64 a0_1, .int .i64 a0_2, .int .i64 a0_3, .int .i64 a0_4] 23 (0, 0)) := bl Kg3.out
    obtain ⟨x0, x1, x2, x3, x4, xf0, xf1, xf2, xf3, xf4⟩ := cq5 k3
    clear k3
    by_cases c1 : e = 0
    · have q1 : (e == 0) = true := beq_iff_eq.mpr c1
      by_cases c2 : a0_4 ≤ 4
      · have q2 : decide (a0_4 ≤ 4) = true := decide_eq_true c2
        by_cases c3 : a0_1 ≤ 32
        · have q3 : decide (a0_1 ≤ 32) = true := decide_eq_true c3
          have q4 : decide (a0_0 ≤ 64) = g := by
            cases hg : g with
            | true => exact decide_eq_true (G1.out.1 hg).2.2.2
            | false => exact decide_eq_false (G1.out.2 hg c1 c2 c3)
          clear c1 c2 c3
          go_wp2
          go_meet
          case rel => exact ⟨by first | rfl | (simp; done) | (simp [*]; done), ⟨B12.out⟩⟩
        · have q3 : decide (a0_1 ≤ 32) = false := decide_eq_false c3
          have q4 : g = false := by
            cases hg : g with
            | false => rfl
            | true => exact absurd (G1.out.1 hg).2.2.1 c3
          subst q4
          clear c1 c2 c3
          go_wp2
          go_meet
          case rel => exact ⟨by first | rfl | (simp; done) | (simp [*]; done), ⟨B12.out⟩⟩
      · have q2 : decide (a0_4 ≤ 4) = false := decide_eq_false c2
        have q4 : g = false := by
          cases hg : g with
          | false => rfl
          | true => exact absurd (G1.out.1 hg).2.1 c2
        subst q4
        clear c1 c2
        go_wp2
        go_meet
        case rel => exact ⟨by first | rfl | (simp; done) | (simp [*]; done), ⟨B12.out⟩⟩
    · have q1 : (e == 0) = false := beq_eq_false_iff_ne.mpr c1
      have q4 : g = false := by
        cases hg : g with
        | false => rfl
        | true => exact absurd (G1.out.1 hg).1 c1
      subst q4
      clear c1
      go_wp2
      go_meet
      case rel => exact ⟨by first | rfl | (simp; done) | (simp [*]; done), ⟨B12.out⟩⟩
  case rest =>
  clear B11
  obtain ⟨rfl, B11⟩ := hcut
  go_upto_if 60 with (fail)
  go_cut [] (fun wd => Aside0 (Below w10.heap.size w10 wd))
  case first =>
    cases g with
    | false =>
      go_wp2
      go_meet
      exact ⟨B11.out⟩
    | true =>
    obtain ⟨x1, x2, x3, x4, u, m1, m2, m3, m4, hm1, hm2, hm3, hm4, hm5⟩ := GM.out rfl
    have HM1 := Aside0.mk hm1
    have HM2 := Aside0.mk hm2
    have HM3 := Aside0.mk hm3
    have HM4 := Aside0.mk hm4
    have HM5 := Aside0.mk hm5
    clear hm1 hm2 hm3 hm4 hm5
  
    have k3 : wc.heap[g3]? = some (.cells #[.int .i64 a0_0, .int .i64 a0_1, .int .i64 a0_2, .int .i64 a0_3, .int .i64 a0_4] 23 (0, 0)) := bl Kg3.out
    obtain ⟨y0, y1, y2, y3, y4, yf0, yf1, yf2, yf3, yf4⟩ := cq5 k3
    clear k3
    go_upto_region 8 with (first | ((with_reducible refine gate_callee (f := 16) rfl ?_); refine goesL_ _ rfl rfl Try.func16 (by kernel_rfl) rfl #[.agg #[.int .i64 a0_0, .int .i64 a0_1, .int .i64 a0_2, .int .i64 a0_3, .int .i64 a0_4], .string s] rfl ar ?_; (with_reducible refine (block_Read.calls k2 a0_0 a0_1 a0_2 a0_3 a0_4 s x1 x2 x3 x4 0 _ HM1.out).mono ?_); rintro e_ w12 ⟨v1, v2, v3, rfl, hv1, hv2, hv3, hb⟩; obtain ⟨Ax1, cx1, rfl⟩ := Kd.R_slice hv1; obtain ⟨Ax2, cx2, rfl⟩ := Kd.R_slice hv2; obtain ⟨Ax3, cx3, rfl⟩ := Kd.R_slice hv3; refine ⟨_, rfl, ?_⟩; have x_1 := Aside0.mk hv1; have x_2 := Aside0.mk hv2; have x_3 := Aside0.mk hv3; have Bx := Aside0.mk hb; clear hv1 hv2 hv3 hb) | ((with_reducible refine gate_dst (N := 11) rfl ?_); refine bxe (N := 11) (cs := #[.slice none 0 0, .int .i64 0, .slice none 0 0, .slice none 0 0]) (t := 29) ?_; intro g11 hg w13 hb hw; have Kg11 := Aside0.mk hb; have Bg11 := Aside0.mk hw; have Gg11 := Aside0.mk (Nat.le_of_eq hg.symm); clear hg hb hw; obtain ⟨hcg110, hcg111, hcg112, hcg113, hfg110, hfg111, hfg112, hfg113⟩ := cq4 Kg11.out))
    clear hcg110 hcg111 hcg112 hcg113 hfg110 hfg111 hfg112 hfg113
    have k_ := Aside0.mk (blk_put (blk_put (blk_put (blk_put Kg11.out 0 (.slice Ax1 x1.length cx1) rfl) 1 (.int .i64 x2) rfl) 2 (.slice Ax2 x3.length cx2) rfl) 3 (.slice Ax3 x4.length cx3) rfl)
    have b_ := Aside0.mk (below_set (j := 3) (v := .slice Ax3 x4.length cx3) (below_set (j := 2) (v := .slice Ax2 x3.length cx2) (below_set (j := 1) (v := .int .i64 x2) (below_set (j := 0) (v := .slice Ax1 x1.length cx1) Bg11.out Gg11.out) Gg11.out) Gg11.out) Gg11.out)
    clear Kg11 Bg11
    generalize (((w13.setCell ⟨g11, 0, none⟩ (.slice Ax1 x1.length cx1)).setCell ⟨g11, 1, none⟩ (.int .i64 x2)).setCell ⟨g11, 2, none⟩ (.slice Ax2 x3.length cx2)).setCell ⟨g11, 3, none⟩ (.slice Ax3 x4.length cx3) = w14 at k_ b_ ⊢
    have Kg11 := k_
    have Bg11 := b_
    clear k_ b_
    clear y0 y1 y2 y3 y4 yf0 yf1 yf2 yf3 yf4
    refine region_chain 15 15 (B := [0, 0, 2, 7, 15, 31, 63, 127, 255, 511, 1023, 511, 4095, 8191, 16383]) (by kernel_rfl) rfl (by kernel_rfl) (by kernel_rfl) ?_
    refine chn_pure (fun _ => rfl) (f := ?f10) (A' := ?Ap10) ?hrun10 ?hmask10 ?hind10 ?hA10 ?hrest10
    case hrun10 =>
      intro v W hW
      go_simp
      with_reducible rfl
    case hmask10 => exact fun _ => rfl
    case hind10 => exact fun _ _ => rfl
    case hA10 =>
      intro v
      simp only [Act.put, List.setIfInBounds_toArray, List.set_cons_zero, List.set_cons_succ]
      rfl
    refine chn_pure (fun _ => rfl) (f := ?f11) (A' := ?Ap11) ?hrun11 ?hmask11 ?hind11 ?hA11 ?hrest11
    case hrun11 =>
      intro v W hW
      have k7 : W.heap[g7]? = some (.cells #[.slice At1 t1.length ct1, .int .i64 t2, .slice At2 t3.length ct2, .slice At3 t4.length ct3] 31 (0, 0)) := bl Kg7.out
      obtain ⟨z0, z1, z2, z3, _⟩ := cq4 k7
      go_simp
      with_reducible rfl
    case hmask11 => exact fun _ => rfl
    case hind11 => exact fun _ _ => rfl
    case hA11 =>
      intro v
      simp only [Act.put, List.setIfInBounds_toArray, List.set_cons_zero, List.set_cons_succ]
      rfl
    refine chn_call 17 rfl (fun _ => rfl) Try.func17 (by kernel_rfl) rfl (fun v => .string u) (fun y W W' => True) (fun v => #[.agg #[.slice At1 t1.length ct1, .int .i64 t2, .slice At2 t3.length ct2, .slice At3 t4.length ct3]]) (fun _ => ar) (fun _ => rfl) (A' := ?Ap12) ?hA12 ?hcall12 ?hrest12
    case hA12 =>
      intro v
      simp only [Act.put, List.setIfInBounds_toArray, List.set_cons_zero, List.set_cons_succ]
      rfl
    case hcall12 =>
      intro v W0 W1 W hW hd
      refine (tillerref11_Bytes.calls k2 At1 ct1 t1 t2 At2 ct2 t3 At3 ct3 t4 u W (cl (Kd.R_reads' T1.out).2.2) (Kd.R_reads' T1.out).2.1 (cl (Kd.R_reads' T2.out).2.2) (Kd.R_reads' T2.out).2.1 (cl (Kd.R_reads' T3.out).2.2) (Kd.R_reads' T3.out).2.1 HM2.out).mono ?_
      rintro e_ W' ⟨rfl, hb⟩
      exact ⟨undef, rfl, trivial, hb⟩
    refine chn_pure (fun _ => rfl) (f := fun v => .bool false) (A' := ?Ap13) ?hrun13 ?hmask13 ?hind13 ?hA13 ?hrest13
    case hrun13 =>
      intro v W hW
      have q_ : (s.toList != u.toList) = false := bne_eq_false_iff_eq.mpr HM3.out
      go_simp
      exact HM3.out
    case hmask13 => exact fun _ => rfl
    case hind13 => exact fun _ _ => rfl
    case hA13 =>
      intro v
      simp only [Act.put, List.setIfInBounds_toArray, List.set_cons_zero, List.set_cons_succ]
      rfl
    refine chn_pure (fun _ => rfl) (f := ?f14) (A' := ?Ap14) ?hrun14 ?hmask14 ?hind14 ?hA14 ?hrest14
    case hrun14 =>
      intro v W hW
      go_simp
      with_reducible rfl
    case hmask14 => exact fun _ => rfl
    case hind14 => exact fun _ _ => rfl
    case hA14 =>
      intro v
      simp only [Act.put, List.setIfInBounds_toArray, List.set_cons_zero, List.set_cons_succ]
      rfl
    refine chn_pure (fun _ => rfl) (f := ?f15) (A' := ?Ap15) ?hrun15 ?hmask15 ?hind15 ?hA15 ?hrest15
    case hrun15 =>
      intro v W hW
      go_simp
      with_reducible rfl
    case hmask15 => exact fun _ => rfl
    case hind15 => exact fun _ _ => rfl
    case hA15 =>
      intro v
      simp only [Act.put, List.setIfInBounds_toArray, List.set_cons_zero, List.set_cons_succ]
      rfl
    refine chn_pure (fun _ => rfl) (f := ?f16) (A' := ?Ap16) ?hrun16 ?hmask16 ?hind16 ?hA16 ?hrest16
    case hrun16 =>
      intro v W hW
      go_simp
      with_reducible rfl
    case hmask16 => exact fun _ => rfl
    case hind16 => exact fun _ _ => rfl
    case hA16 =>
      intro v
      simp only [Act.put, List.setIfInBounds_toArray, List.set_cons_zero, List.set_cons_succ]
      rfl
    refine chn_pure (fun _ => rfl) (f := ?f17) (A' := ?Ap17) ?hrun17 ?hmask17 ?hind17 ?hA17 ?hrest17
    case hrun17 =>
      intro v W hW
      go_simp
      with_reducible rfl
    case hmask17 => exact fun _ => rfl
    case hind17 => exact fun _ _ => rfl
    case hA17 =>
      intro v
      simp only [Act.put, List.setIfInBounds_toArray, List.set_cons_zero, List.set_cons_succ]
      rfl
    refine chn_pure (fun _ => rfl) (f := ?f18) (A' := ?Ap18) ?hrun18 ?hmask18 ?hind18 ?hA18 ?hrest18
    case hrun18 =>
      intro v W hW
      go_simp
      with_reducible rfl
    case hmask18 => exact fun _ => rfl
    case hind18 => exact fun _ _ => rfl
    case hA18 =>
      intro v
      simp only [Act.put, List.setIfInBounds_toArray, List.set_cons_zero, List.set_cons_succ]
      rfl
    refine chn_pure (fun _ => rfl) (f := ?f19) (A' := ?Ap19) ?hrun19 ?hmask19 ?hind19 ?hA19 ?hrest19
    case hrun19 =>
      intro v W hW
      have k11 : W.heap[g11]? = some (.cells #[.slice Ax1 x1.length cx1, .int .i64 x2, .slice Ax2 x3.length cx2, .slice Ax3 x4.length cx3] 29 (0, 0)) := bl Kg11.out
      obtain ⟨z0, z1, z2, z3, _⟩ := cq4 k11
      go_simp
      with_reducible rfl
    case hmask19 => exact fun _ => rfl
    case hind19 => exact fun _ _ => rfl
    case hA19 =>
      intro v
      simp only [Act.put, List.setIfInBounds_toArray, List.set_cons_zero, List.set_cons_succ]
      rfl
    refine chn_call 11 rfl (fun _ => rfl) Try.func11 (by kernel_rfl) rfl (fun v => v 10) (fun y W W' => ∃ (A1 : Option Addr) (c1 : Nat) (A2 : Option Addr) (c2 : Nat) (A3 : Option Addr) (c3 : Nat), y = .agg #[.slice A1 m1.length c1, .int .i64 m2, .slice A2 m3.length c2, .slice A3 m4.length c3] ∧ Kd.R (Kd.int .i64) 3 W' W.heap.size (fun _ => True) (.slice A1 m1.length c1) m1 ∧ Kd.R (Kd.slice 61 (Kd.slice 72 (Kd.int .i32))) 62 W' W.heap.size (fun _ => True) (.slice A2 m3.length c2) m3 ∧ Kd.R (Kd.slice 61 (Kd.slice 72 (Kd.int .i32))) 62 W' W.heap.size (fun _ => True) (.slice A3 m4.length c3) m4) (fun v => #[.agg #[.slice Ax1 x1.length cx1, .int .i64 x2, .slice Ax2 x3.length cx2, .slice Ax3 x4.length cx3]]) (fun _ => ar) (fun _ => rfl) (A' := ?Ap20) ?hA20 ?hcall20 ?hrest20
    case hA20 =>
      intro v
      simp only [Act.put, List.setIfInBounds_toArray, List.set_cons_zero, List.set_cons_succ]
      rfl
    case hcall20 =>
      intro v W0 W1 W hW hd
      refine (tillerlaw11_Told.calls k2 Ax1 cx1 x1 x2 Ax2 cx2 x3 Ax3 cx3 x4 m1 m2 m3 m4 W (cl (Kd.R_reads' x_1.out).2.2) (Kd.R_reads' x_1.out).2.1 (cl (Kd.R_reads' x_2.out).2.2) (Kd.R_reads' x_2.out).2.1 (cl (Kd.R_reads' x_3.out).2.2) (Kd.R_reads' x_3.out).2.1 HM4.out).mono ?_
      rintro e_ W' ⟨y1, y2, y3, rfl, h1, h2, h3, hb⟩
      obtain ⟨A1, c1, rfl⟩ := Kd.R_slice h1
      obtain ⟨A2, c2, rfl⟩ := Kd.R_slice h2
      obtain ⟨A3, c3, rfl⟩ := Kd.R_slice h3
      exact ⟨_, rfl, ⟨A1, c1, A2, c2, A3, c3, rfl, h1, Kd.R_mono h2 (fun _ _ => trivial), Kd.R_mono h3 (fun _ _ => trivial)⟩, hb⟩
    refine chn_pure (fun _ => rfl) (f := ?f21) (A' := ?Ap21) ?hrun21 ?hmask21 ?hind21 ?hA21 ?hrest21
    case hrun21 =>
      intro v W hW
      have k7 : W.heap[g7]? = some (.cells #[.slice At1 t1.length ct1, .int .i64 t2, .slice At2 t3.length ct2, .slice At3 t4.length ct3] 31 (0, 0)) := bl Kg7.out
      obtain ⟨z0, z1, z2, z3, _⟩ := cq4 k7
      go_simp
      with_reducible rfl
    case hmask21 => exact fun _ => rfl
    case hind21 => exact fun _ _ => rfl
    case hA21 =>
      intro v
      simp only [Act.put, List.setIfInBounds_toArray, List.set_cons_zero, List.set_cons_succ]
      rfl
    refine chn_call 18 rfl (fun _ => rfl) Try.func18 (by kernel_rfl) rfl (fun v => .bool true) (fun y W W' => True) (fun v => #[v 10, .agg #[.slice At1 t1.length ct1, .int .i64 t2, .slice At2 t3.length ct2, .slice At3 t4.length ct3]]) (fun _ => ar) (fun _ => rfl) (A' := ?Ap22) ?hA22 ?hcall22 ?hrest22
    case hA22 =>
      intro v
      simp only [Act.put, List.setIfInBounds_toArray, List.set_cons_zero, List.set_cons_succ]
      rfl
    case hcall22 =>
      intro v W0 W1 W hW hd
      have r1 : (Kd.int .i64).C W At1 t1.length t1 := cl (Kd.R_reads' T1.out).2.2
      have r2 : (Kd.slice 61 (Kd.slice 72 (Kd.int .i32))).C W At2 t3.length t3 := cl (Kd.R_reads' T2.out).2.2
      have r3 : (Kd.slice 61 (Kd.slice 72 (Kd.int .i32))).C W At3 t4.length t4 := cl (Kd.R_reads' T3.out).2.2
      have f2 := hd 10 (by decide) rfl
      obtain ⟨A1, c1, A2, c2, A3, c3, ey, h1, h2, h3⟩ := f2.fact
      have b2 := f2.b2
      rw [ey]
      refine (tillerref11_Same.calls k2 A1 c1 m1 m2 A2 c2 m3 A3 c3 m4 At1 ct1 t1 t2 At2 ct2 t3 At3 ct3 t4 true W (Kd.C_below (Kd.R_reads' h1).2.2 b2) (Kd.R_reads' h1).2.1 (Kd.C_below (Kd.R_reads' h2).2.2 b2) (Kd.R_reads' h2).2.1 (Kd.C_below (Kd.R_reads' h3).2.2 b2) (Kd.R_reads' h3).2.1 r1 (Kd.R_reads' T1.out).2.1 r2 (Kd.R_reads' T2.out).2.1 r3 (Kd.R_reads' T3.out).2.1 HM5.out).mono ?_
      rintro e_ W' ⟨rfl, hb⟩
      exact ⟨undef, rfl, trivial, hb⟩
    refine chn_pure (fun _ => rfl) (f := ?f23) (A' := ?Ap23) ?hrun23 ?hmask23 ?hind23 ?hA23 ?hrest23
    case hrun23 =>
      intro v W hW
      go_simp
      with_reducible rfl
    case hmask23 => exact fun _ => rfl
    case hind23 => exact fun _ _ => rfl
    case hA23 =>
      intro v
      simp only [Act.put, List.setIfInBounds_toArray, List.set_cons_zero, List.set_cons_succ]
      rfl
    refine chn_pure (fun _ => rfl) (f := ?f24) (A' := ?Ap24) ?hrun24 ?hmask24 ?hind24 ?hA24 ?hrest24
    case hrun24 =>
      intro v W hW
      go_simp
      with_reducible rfl
    case hmask24 => exact fun _ => rfl
    case hind24 => exact fun _ _ => rfl
    case hA24 =>
      intro v
      simp only [Act.put, List.setIfInBounds_toArray, List.set_cons_zero, List.set_cons_succ]
      rfl
    intro v W0 W1 W hW hF _
    have B15 := Aside0.mk (show Below w14.heap.size w14 W from ⟨hW.os, hW.tape, hW.output, hW.size, hW.block⟩)
    clear hF hW
    refine wpList_nil ?_
    dsimp only
    go_wp2
    go_meet
    exact ⟨gl⟩
  case rest =>
  clear B11
  have B11 := hcut
  clear hcut
  go_upto_if 84 with (fail)
  go_cut [2] (fun v2 we => v2 = .string s2 ∧ Aside0 (Below w10.heap.size w10 we))
  case first =>
    go_wp2
    · rename_i c1
      have e2 := S2.out.1 (by omega)
      go_meet
      case rel => exact ⟨by rw [e2], ⟨B11.out⟩⟩
    · rename_i c1
      have e2 := S2.out.2 (by omega)
      go_meet
      case rel => exact ⟨by rw [e2], ⟨B11.out⟩⟩
  case rest =>
  clear B11
  obtain ⟨rfl, B11⟩ := hcut
  have k3 : wc.heap[g3]? = some (.cells #[.int .i64 a0_0, .int .i64 a0_1, .int .i64 a0_2, .int .i64 a0_3, .int .i64 a0_4] 23 (0, 0)) := bl Kg3.out
  obtain ⟨a0, a1, a2_, a3, a4, af0, af1, af2, af3, af4⟩ := cq5 k3
  clear k3
  go_upto_region 13 with (first | ((with_reducible refine gate_callee (f := 16) rfl ?_); refine goesL_ _ rfl rfl Try.func16 (by kernel_rfl) rfl #[.agg #[.int .i64 a0_0, .int .i64 a0_1, .int .i64 a0_2, .int .i64 a0_3, .int .i64 a0_4], .string s2] rfl ar ?_; (with_reducible refine (block_Read.calls k4 a0_0 a0_1 a0_2 a0_3 a0_4 s2 y1 y2 y3 y4 y5 _ HY.out).mono ?_); rintro e_ w20 ⟨v1, v2, v3, rfl, hv1, hv2, hv3, hb⟩; obtain ⟨Ay1, cy1, rfl⟩ := Kd.R_slice hv1; obtain ⟨Ay2, cy2, rfl⟩ := Kd.R_slice hv2; obtain ⟨Ay3, cy3, rfl⟩ := Kd.R_slice hv3; refine ⟨_, rfl, ?_⟩; have y_1 := Aside0.mk hv1; have y_2 := Aside0.mk hv2; have y_3 := Aside0.mk hv3; have By := Aside0.mk hb; clear hv1 hv2 hv3 hb) | ((with_reducible refine gate_dst (N := 13) rfl ?_); refine bxe (N := 13) (cs := #[.slice none 0 0, .int .i64 0, .slice none 0 0, .slice none 0 0]) (t := 29) ?_; intro g13 hg w21 hb hw; have Kg13 := Aside0.mk hb; have Bg13 := Aside0.mk hw; have Gg13 := Aside0.mk (Nat.le_of_eq hg.symm); clear hg hb hw; obtain ⟨hcg130, hcg131, hcg132, hcg133, hfg130, hfg131, hfg132, hfg133⟩ := cq4 Kg13.out))
  clear hcg130 hcg131 hcg132 hcg133 hfg130 hfg131 hfg132 hfg133
  have k_ := Aside0.mk (blk_put (blk_put (blk_put (blk_put Kg13.out 0 (.slice Ay1 y1.length cy1) rfl) 1 (.int .i64 y2) rfl) 2 (.slice Ay2 y3.length cy2) rfl) 3 (.slice Ay3 y4.length cy3) rfl)
  have b_ := Aside0.mk (below_set (j := 3) (v := .slice Ay3 y4.length cy3) (below_set (j := 2) (v := .slice Ay2 y3.length cy2) (below_set (j := 1) (v := .int .i64 y2) (below_set (j := 0) (v := .slice Ay1 y1.length cy1) Bg13.out Gg13.out) Gg13.out) Gg13.out) Gg13.out)
  clear Kg13 Bg13
  generalize (((w21.setCell ⟨g13, 0, none⟩ (.slice Ay1 y1.length cy1)).setCell ⟨g13, 1, none⟩ (.int .i64 y2)).setCell ⟨g13, 2, none⟩ (.slice Ay2 y3.length cy2)).setCell ⟨g13, 3, none⟩ (.slice Ay3 y4.length cy3) = w22 at k_ b_ ⊢
  have Kg13 := k_
  have Bg13 := b_
  clear k_ b_
  clear a0 a1 a2_ a3 a4 af0 af1 af2 af3 af4
  have k3 : w22.heap[g3]? = some (.cells #[.int .i64 a0_0, .int .i64 a0_1, .int .i64 a0_2, .int .i64 a0_3, .int .i64 a0_4] 23 (0, 0)) := bl Kg3.out
  obtain ⟨a0, a1, a2_, a3, a4, af0, af1, af2, af3, af4⟩ := cq5 k3
  clear k3
  go_upto_region 14 with (first | ((with_reducible refine gate_callee (f := 19) rfl ?_); refine goesL_ _ rfl rfl Try.func19 (by kernel_rfl) rfl #[.agg #[.int .i64 a0_0, .int .i64 a0_1, .int .i64 a0_2, .int .i64 a0_3, .int .i64 a0_4], .string s2] rfl ar ?_; (with_reducible refine (tillerref11_Read.calls k4 a0_0 a0_1 a0_2 a0_3 a0_4 s2 z1 z2 z3 z4 y5 _ HZ.out).mono ?_); rintro e_ w23 ⟨v1, v2, v3, rfl, hv1, hv2, hv3, hb⟩; obtain ⟨Az1, cz1, rfl⟩ := Kd.R_slice hv1; obtain ⟨Az2, cz2, rfl⟩ := Kd.R_slice hv2; obtain ⟨Az3, cz3, rfl⟩ := Kd.R_slice hv3; refine ⟨_, rfl, ?_⟩; have z_1 := Aside0.mk hv1; have z_2 := Aside0.mk hv2; have z_3 := Aside0.mk hv3; have Bz := Aside0.mk hb; clear hv1 hv2 hv3 hb) | ((with_reducible refine gate_dst (N := 15) rfl ?_); refine bxe (N := 15) (cs := #[.slice none 0 0, .int .i64 0, .slice none 0 0, .slice none 0 0]) (t := 31) ?_; intro g15 hg w24 hb hw; have Kg15 := Aside0.mk hb; have Bg15 := Aside0.mk hw; have Gg15 := Aside0.mk (Nat.le_of_eq hg.symm); clear hg hb hw; obtain ⟨hcg150, hcg151, hcg152, hcg153, hfg150, hfg151, hfg152, hfg153⟩ := cq4 Kg15.out))
  clear hcg150 hcg151 hcg152 hcg153 hfg150 hfg151 hfg152 hfg153
  have k_ := Aside0.mk (blk_put (blk_put (blk_put (blk_put Kg15.out 0 (.slice Az1 z1.length cz1) rfl) 1 (.int .i64 z2) rfl) 2 (.slice Az2 z3.length cz2) rfl) 3 (.slice Az3 z4.length cz3) rfl)
  have b_ := Aside0.mk (below_set (j := 3) (v := .slice Az3 z4.length cz3) (below_set (j := 2) (v := .slice Az2 z3.length cz2) (below_set (j := 1) (v := .int .i64 z2) (below_set (j := 0) (v := .slice Az1 z1.length cz1) Bg15.out Gg15.out) Gg15.out) Gg15.out) Gg15.out)
  clear Kg15 Bg15
  generalize (((w24.setCell ⟨g15, 0, none⟩ (.slice Az1 z1.length cz1)).setCell ⟨g15, 1, none⟩ (.int .i64 z2)).setCell ⟨g15, 2, none⟩ (.slice Az2 z3.length cz2)).setCell ⟨g15, 3, none⟩ (.slice Az3 z4.length cz3) = w25 at k_ b_ ⊢
  have Kg15 := k_
  have Bg15 := b_
  clear k_ b_
  clear a0 a1 a2_ a3 a4 af0 af1 af2 af3 af4
  refine region_chain 10 10 (B := [0, 0, 3, 7, 15, 31, 15, 127, 255, 511]) (by kernel_rfl) rfl (by kernel_rfl) (by kernel_rfl) ?_
  refine chn_pure (fun _ => rfl) (f := ?f25) (A' := ?Ap25) ?hrun25 ?hmask25 ?hind25 ?hA25 ?hrest25
  case hrun25 =>
    intro v W hW
    go_simp
    with_reducible rfl
  case hmask25 => exact fun _ => rfl
  case hind25 => exact fun _ _ => rfl
  case hA25 =>
    intro v
    simp only [Act.put, List.setIfInBounds_toArray, List.set_cons_zero, List.set_cons_succ]
    rfl
  refine chn_pure (fun _ => rfl) (f := ?f26) (A' := ?Ap26) ?hrun26 ?hmask26 ?hind26 ?hA26 ?hrest26
  case hrun26 =>
    intro v W hW
    go_simp
    with_reducible rfl
  case hmask26 => exact fun _ => rfl
  case hind26 => exact fun _ _ => rfl
  case hA26 =>
    intro v
    simp only [Act.put, List.setIfInBounds_toArray, List.set_cons_zero, List.set_cons_succ]
    rfl
  refine chn_pure (fun _ => rfl) (f := fun v => .bool false) (A' := ?Ap27) ?hrun27 ?hmask27 ?hind27 ?hA27 ?hrest27
  case hrun27 =>
    intro v W hW
    go_simp
    first | done | rfl | (simp; done)
  case hmask27 => exact fun _ => rfl
  case hind27 => exact fun _ _ => rfl
  case hA27 =>
    intro v
    simp only [Act.put, List.setIfInBounds_toArray, List.set_cons_zero, List.set_cons_succ]
    rfl
  refine chn_pure (fun _ => rfl) (f := ?f28) (A' := ?Ap28) ?hrun28 ?hmask28 ?hind28 ?hA28 ?hrest28
  case hrun28 =>
    intro v W hW
    go_simp
    with_reducible rfl
  case hmask28 => exact fun _ => rfl
  case hind28 => exact fun _ _ => rfl
  case hA28 =>
    intro v
    simp only [Act.put, List.setIfInBounds_toArray, List.set_cons_zero, List.set_cons_succ]
    rfl
  refine chn_pure (fun _ => rfl) (f := ?f29) (A' := ?Ap29) ?hrun29 ?hmask29 ?hind29 ?hA29 ?hrest29
  case hrun29 =>
    intro v W hW
    have k13 : W.heap[g13]? = some (.cells #[.slice Ay1 y1.length cy1, .int .i64 y2, .slice Ay2 y3.length cy2, .slice Ay3 y4.length cy3] 29 (0, 0)) := bl Kg13.out
    obtain ⟨a0, a1, a2_, a3, _⟩ := cq4 k13
    go_simp
    with_reducible rfl
  case hmask29 => exact fun _ => rfl
  case hind29 => exact fun _ _ => rfl
  case hA29 =>
    intro v
    simp only [Act.put, List.setIfInBounds_toArray, List.set_cons_zero, List.set_cons_succ]
    rfl
  refine chn_call 11 rfl (fun _ => rfl) Try.func11 (by kernel_rfl) rfl (fun v => v 5) (fun y W W' => ∃ (A1 : Option Addr) (c1 : Nat) (A2 : Option Addr) (c2 : Nat) (A3 : Option Addr) (c3 : Nat), y = .agg #[.slice A1 p1.length c1, .int .i64 p2, .slice A2 p3.length c2, .slice A3 p4.length c3] ∧ Kd.R (Kd.int .i64) 3 W' W.heap.size (fun _ => True) (.slice A1 p1.length c1) p1 ∧ Kd.R (Kd.slice 61 (Kd.slice 72 (Kd.int .i32))) 62 W' W.heap.size (fun _ => True) (.slice A2 p3.length c2) p3 ∧ Kd.R (Kd.slice 61 (Kd.slice 72 (Kd.int .i32))) 62 W' W.heap.size (fun _ => True) (.slice A3 p4.length c3) p4) (fun v => #[.agg #[.slice Ay1 y1.length cy1, .int .i64 y2, .slice Ay2 y3.length cy2, .slice Ay3 y4.length cy3]]) (fun _ => ar) (fun _ => rfl) (A' := ?Ap30) ?hA30 ?hcall30 ?hrest30
  case hA30 =>
    intro v
    simp only [Act.put, List.setIfInBounds_toArray, List.set_cons_zero, List.set_cons_succ]
    rfl
  case hcall30 =>
    intro v W0 W1 W hW hd
    refine (tillerlaw11_Told.calls k4 Ay1 cy1 y1 y2 Ay2 cy2 y3 Ay3 cy3 y4 p1 p2 p3 p4 W (cl (Kd.R_reads' y_1.out).2.2) (Kd.R_reads' y_1.out).2.1 (cl (Kd.R_reads' y_2.out).2.2) (Kd.R_reads' y_2.out).2.1 (cl (Kd.R_reads' y_3.out).2.2) (Kd.R_reads' y_3.out).2.1 HP.out).mono ?_
    rintro e_ W' ⟨ya, yb, yc, rfl, h1, h2, h3, hb⟩
    obtain ⟨A1, c1, rfl⟩ := Kd.R_slice h1
    obtain ⟨A2, c2, rfl⟩ := Kd.R_slice h2
    obtain ⟨A3, c3, rfl⟩ := Kd.R_slice h3
    exact ⟨_, rfl, ⟨A1, c1, A2, c2, A3, c3, rfl, h1, Kd.R_mono h2 (fun _ _ => trivial), Kd.R_mono h3 (fun _ _ => trivial)⟩, hb⟩
  refine chn_pure (fun _ => rfl) (f := ?f31) (A' := ?Ap31) ?hrun31 ?hmask31 ?hind31 ?hA31 ?hrest31
  case hrun31 =>
    intro v W hW
    have k15 : W.heap[g15]? = some (.cells #[.slice Az1 z1.length cz1, .int .i64 z2, .slice Az2 z3.length cz2, .slice Az3 z4.length cz3] 31 (0, 0)) := bl Kg15.out
    obtain ⟨a0, a1, a2_, a3, _⟩ := cq4 k15
    go_simp
    with_reducible rfl
  case hmask31 => exact fun _ => rfl
  case hind31 => exact fun _ _ => rfl
  case hA31 =>
    intro v
    simp only [Act.put, List.setIfInBounds_toArray, List.set_cons_zero, List.set_cons_succ]
    rfl
  refine chn_call 18 rfl (fun _ => rfl) Try.func18 (by kernel_rfl) rfl (fun v => .bool true) (fun y W W' => True) (fun v => #[v 5, .agg #[.slice Az1 z1.length cz1, .int .i64 z2, .slice Az2 z3.length cz2, .slice Az3 z4.length cz3]]) (fun _ => ar) (fun _ => rfl) (A' := ?Ap32) ?hA32 ?hcall32 ?hrest32
  case hA32 =>
    intro v
    simp only [Act.put, List.setIfInBounds_toArray, List.set_cons_zero, List.set_cons_succ]
    rfl
  case hcall32 =>
    intro v W0 W1 W hW hd
    have r1 : (Kd.int .i64).C W Az1 z1.length z1 := cl (Kd.R_reads' z_1.out).2.2
    have r2 : (Kd.slice 61 (Kd.slice 72 (Kd.int .i32))).C W Az2 z3.length z3 := cl (Kd.R_reads' z_2.out).2.2
    have r3 : (Kd.slice 61 (Kd.slice 72 (Kd.int .i32))).C W Az3 z4.length z4 := cl (Kd.R_reads' z_3.out).2.2
    have f2 := hd 5 (by decide) rfl
    obtain ⟨A1, c1, A2, c2, A3, c3, ey, h1, h2, h3⟩ := f2.fact
    have b2 := f2.b2
    rw [ey]
    refine (tillerref11_Same.calls k4 A1 c1 p1 p2 A2 c2 p3 A3 c3 p4 Az1 cz1 z1 z2 Az2 cz2 z3 Az3 cz3 z4 true W (Kd.C_below (Kd.R_reads' h1).2.2 b2) (Kd.R_reads' h1).2.1 (Kd.C_below (Kd.R_reads' h2).2.2 b2) (Kd.R_reads' h2).2.1 (Kd.C_below (Kd.R_reads' h3).2.2 b2) (Kd.R_reads' h3).2.1 r1 (Kd.R_reads' z_1.out).2.1 r2 (Kd.R_reads' z_2.out).2.1 r3 (Kd.R_reads' z_3.out).2.1 HSM.out).mono ?_
    rintro e_ W' ⟨rfl, hb⟩
    exact ⟨undef, rfl, trivial, hb⟩
  refine chn_pure (fun _ => rfl) (f := ?f33) (A' := ?Ap33) ?hrun33 ?hmask33 ?hind33 ?hA33 ?hrest33
  case hrun33 =>
    intro v W hW
    go_simp
    with_reducible rfl
  case hmask33 => exact fun _ => rfl
  case hind33 => exact fun _ _ => rfl
  case hA33 =>
    intro v
    simp only [Act.put, List.setIfInBounds_toArray, List.set_cons_zero, List.set_cons_succ]
    rfl
  refine chn_pure (fun _ => rfl) (f := ?f34) (A' := ?Ap34) ?hrun34 ?hmask34 ?hind34 ?hA34 ?hrest34
  case hrun34 =>
    intro v W hW
    go_simp
    with_reducible rfl
  case hmask34 => exact fun _ => rfl
  case hind34 => exact fun _ _ => rfl
  case hA34 =>
    intro v
    simp only [Act.put, List.setIfInBounds_toArray, List.set_cons_zero, List.set_cons_succ]
    rfl
  intro v W0 W1 W hW hF _
  have B26 := Aside0.mk (show Below w25.heap.size w25 W from ⟨hW.os, hW.tape, hW.output, hW.size, hW.block⟩)
  clear hF hW
  refine wpList_nil ?_
  dsimp only
  have k15 : W.heap[g15]? = some (.cells #[.slice Az1 z1.length cz1, .int .i64 z2, .slice Az2 z3.length cz2, .slice Az3 z4.length cz3] 31 (0, 0)) := bl Kg15.out
  obtain ⟨a0, a1, a2_, a3, af0, af1, af2, af3⟩ := cq4 k15
  clear k15
  by_cases c1 : y5 = 0
  · obtain ⟨ub, hu1, hu2⟩ := HU.out c1
    have HUB := Aside0.mk hu1
    have q1 : (y5 != 0) = false := bne_eq_false_iff_eq.mpr c1
    have q2 : (ub.toList == s2.toList) = true := beq_iff_eq.mpr hu2
    have q3 := Aside0.mk hu2
    clear c1 hu1 hu2
    go_wp2_with (first | ((with_reducible refine (tillerref11_Bytes.calls k4 Az1 cz1 z1 z2 Az2 cz2 z3 Az3 cz3 z4 ub W (cl (Kd.R_reads' z_1.out).2.2) (Kd.R_reads' z_1.out).2.1 (cl (Kd.R_reads' z_2.out).2.2) (Kd.R_reads' z_2.out).2.1 (cl (Kd.R_reads' z_3.out).2.2) (Kd.R_reads' z_3.out).2.1 HUB.out).mono ?_); rintro e_ w27 ⟨rfl, hb⟩; have B27 := Aside0.mk hb; clear hb; dsimp only))
    go_ret
    exact ⟨by first | rfl | (simp; done) | (simp [*]; done) | (simp; exact q3.out), gl⟩
  · have q1 : (y5 != 0) = true := bne_iff_ne.mpr c1
    clear c1
    go_wp2
    go_ret
    exact ⟨by first | rfl | (simp; done) | (simp [*]; done), gl⟩
end Go.Proofs.Ytepbebelbcbciaa.Q
