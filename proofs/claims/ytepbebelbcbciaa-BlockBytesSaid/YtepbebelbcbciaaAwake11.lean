import Derived.Test.YtepbebelbcbciaaAwDef
import Derived.Test.YtepbebelbcbciaaFlowUse
import Derived.Test.YtepbebelbcbciaaZWords
namespace Go.Proofs.Ytepbebelbcbciaa.Q
open Go.RowKit Go.Proofs.YtepbebelbcbciaaW.PrintWords Go.Proofs.YtepbebelbcbciaaW.PrintLast Go.Proofs.YtepbebelbcbciaaW.PrintMore
attribute [local go_sem] max2_int min2_int max_two min_two max_three min_three max_four min_four
set_option linter.unusedVariables false
set_option linter.unusedSimpArgs false
set_option maxHeartbeats 8000000 in
set_option maxRecDepth 100000 in
theorem tillerlaw11_awake.calls (k : Nat) (r : Bool) (w : World) (h : tillerlaw11_awake.f k = some r) :
  Calls Try.prog 15 #[] w fun e w' => e = .returned (.bool r) ∧ Below w.heap.size w w' := by
  unfold tillerlaw11_awake.f at h
  rw [Option.bind_eq_some_iff] at h
  obtain ⟨⟨c0, c1, c2, c3, c4⟩, hs1, h⟩ := h
  rw [Option.bind_eq_some_iff] at h
  obtain ⟨⟨l, es⟩, hsp, h⟩ := h
  rw [Option.bind_eq_some_iff] at h
  obtain ⟨⟨d0, d1, d2, d3, d4⟩, hs2, h⟩ := h
  rw [Option.bind_eq_some_iff] at h
  obtain ⟨⟨q1, q2, q3, q4, q5⟩, hrd, h⟩ := h
  rw [Option.bind_eq_some_iff] at h
  obtain ⟨⟨e0, e1, e2, e3, e4⟩, hs3, h⟩ := h
  rw [Option.bind_eq_some_iff] at h
  obtain ⟨⟨b1, b2, b3, b4⟩, hr0, h⟩ := h
  rw [Option.bind_eq_some_iff] at h
  obtain ⟨⟨s, sy⟩, hby, h⟩ := h
  dsimp only at hsp hrd hby h
  have e12 := hs1.symm.trans hs2
  simp only [Option.some.injEq, Prod.mk.injEq] at e12
  obtain ⟨rfl, rfl, rfl, rfl, rfl⟩ := e12
  have e13 := hs1.symm.trans hs3
  simp only [Option.some.injEq, Prod.mk.injEq] at e13
  obtain ⟨rfl, rfl, rfl, rfl, rfl⟩ := e13
  have HS1 := Aside0.mk hs1
  have HSP := Aside0.mk hsp
  have HRD := Aside0.mk hrd
  have HR0 := Aside0.mk hr0
  have HBY := Aside0.mk hby
  have HH := Aside0.mk h
  clear hs1 hs2 hs3 hsp hrd hr0 hby h
  go_enter Try.func15, Try.ntmps15
  go_upto_region 2 with (first | ((with_reducible refine gate_dst (N := 8) rfl ?_); refine sxe (N := 8) (cs := #[.int .i64 5, .int .i64 6, .int .i64 7]) (t := 3) (n := 3) ?_; intro g8 hg w8 hb hw; have C8 := Aside0.mk (show (Kd.int .i64).C w8 (some ⟨g8, 0, none⟩) 3 [5, 6, 7] from lit_int (k := .i64) [5, 6, 7] hb); have B8 := Aside0.mk hw; clear hg hb hw) | ((with_reducible refine gate_dst (N := 9) rfl ?_); refine sxe (N := 9) (cs := #[.int .i32 1]) (t := 72) (n := 1) ?_; intro g9 hg w9 hb hw; have C9 := Aside0.mk (show (Kd.int .i32).C w9 (some ⟨g9, 0, none⟩) 1 [1] from lit_int (k := .i32) [1] hb); have B9 := Aside0.mk hw; clear hg hb hw) | ((with_reducible refine gate_dst (N := 10) rfl ?_); refine sxe (N := 10) (cs := #[.int .i32 2]) (t := 72) (n := 1) ?_; intro g10 hg w10 hb hw; have C10 := Aside0.mk (show (Kd.int .i32).C w10 (some ⟨g10, 0, none⟩) 1 [2] from lit_int (k := .i32) [2] hb); have B10 := Aside0.mk hw; clear hg hb hw) | ((with_reducible refine gate_dst (N := 11) rfl ?_); refine sxe (N := 11) (cs := #[.int .i32 3]) (t := 72) (n := 1) ?_; intro g11 hg w11 hb hw; have C11 := Aside0.mk (show (Kd.int .i32).C w11 (some ⟨g11, 0, none⟩) 1 [3] from lit_int (k := .i32) [3] hb); have B11 := Aside0.mk hw; clear hg hb hw) | ((with_reducible refine gate_dst (N := 14) rfl ?_); refine sxe (N := 14) (cs := #[.int .i32 4]) (t := 72) (n := 1) ?_; intro g14 hg w14 hb hw; have C14 := Aside0.mk (show (Kd.int .i32).C w14 (some ⟨g14, 0, none⟩) 1 [4] from lit_int (k := .i32) [4] hb); have B14 := Aside0.mk hw; clear hg hb hw) | ((with_reducible refine gate_dst (N := 15) rfl ?_); refine sxe (N := 15) (cs := #[.int .i32 5]) (t := 72) (n := 1) ?_; intro g15 hg w15 hb hw; have C15 := Aside0.mk (show (Kd.int .i32).C w15 (some ⟨g15, 0, none⟩) 1 [5] from lit_int (k := .i32) [5] hb); have B15 := Aside0.mk hw; clear hg hb hw) | ((with_reducible refine gate_dst (N := 16) rfl ?_); refine sxe (N := 16) (cs := #[.int .i32 6]) (t := 72) (n := 1) ?_; intro g16 hg w16 hb hw; have C16 := Aside0.mk (show (Kd.int .i32).C w16 (some ⟨g16, 0, none⟩) 1 [6] from lit_int (k := .i32) [6] hb); have B16 := Aside0.mk hw; clear hg hb hw) | ((with_reducible refine gate_dst (N := 12) rfl ?_); refine sxe (N := 12) (cs := #[.slice (some ⟨g9, 0, none⟩) 1 1, .slice (some ⟨g10, 0, none⟩) 1 1, .slice (some ⟨g11, 0, none⟩) 1 1]) (t := 61) (n := 3) ?_; intro g12 hg w12 hb hw; have C12 := Aside0.mk (show (Kd.slice 72 (Kd.int .i32)).C w12 (some ⟨g12, 0, none⟩) 3 [[1], [2], [3]] from lit_rows (e := 72) (d := (Kd.int .i32)) [(⟨g9, 0, none⟩, 1, [1]), (⟨g10, 0, none⟩, 1, [2]), (⟨g11, 0, none⟩, 1, [3])] hb (by intro r hr; simp only [List.mem_cons, List.not_mem_nil, or_false] at hr; rcases hr with rfl | rfl | rfl; (exact ⟨Nat.le_refl _, cl C9.out⟩); (exact ⟨Nat.le_refl _, cl C10.out⟩); (exact ⟨Nat.le_refl _, cl C11.out⟩))); have B12 := Aside0.mk hw; clear hg hb hw) | ((with_reducible refine gate_dst (N := 13) rfl ?_); refine sxe (N := 13) (cs := #[.slice (some ⟨g12, 0, none⟩) 3 3]) (t := 62) (n := 1) ?_; intro g13 hg w13 hb hw; have C13 := Aside0.mk (show (Kd.slice 61 (Kd.slice 72 (Kd.int .i32))).C w13 (some ⟨g13, 0, none⟩) 1 [[[1], [2], [3]]] from lit_rows (e := 61) (d := (Kd.slice 72 (Kd.int .i32))) [(⟨g12, 0, none⟩, 3, [[1], [2], [3]])] hb (by intro r hr; simp only [List.mem_cons, List.not_mem_nil, or_false] at hr; subst hr; (exact ⟨Nat.le_refl _, cl C12.out⟩))); have B13 := Aside0.mk hw; clear hg hb hw) | ((with_reducible refine gate_dst (N := 17) rfl ?_); refine sxe (N := 17) (cs := #[.slice (some ⟨g14, 0, none⟩) 1 1, .slice (some ⟨g15, 0, none⟩) 1 1, .slice (some ⟨g16, 0, none⟩) 1 1]) (t := 61) (n := 3) ?_; intro g17 hg w17 hb hw; have C17 := Aside0.mk (show (Kd.slice 72 (Kd.int .i32)).C w17 (some ⟨g17, 0, none⟩) 3 [[4], [5], [6]] from lit_rows (e := 72) (d := (Kd.int .i32)) [(⟨g14, 0, none⟩, 1, [4]), (⟨g15, 0, none⟩, 1, [5]), (⟨g16, 0, none⟩, 1, [6])] hb (by intro r hr; simp only [List.mem_cons, List.not_mem_nil, or_false] at hr; rcases hr with rfl | rfl | rfl; (exact ⟨Nat.le_refl _, cl C14.out⟩); (exact ⟨Nat.le_refl _, cl C15.out⟩); (exact ⟨Nat.le_refl _, cl C16.out⟩))); have B17 := Aside0.mk hw; clear hg hb hw) | ((with_reducible refine gate_dst (N := 18) rfl ?_); refine sxe (N := 18) (cs := #[.slice (some ⟨g17, 0, none⟩) 3 3]) (t := 62) (n := 1) ?_; intro g18 hg w18 hb hw; have C18 := Aside0.mk (show (Kd.slice 61 (Kd.slice 72 (Kd.int .i32))).C w18 (some ⟨g18, 0, none⟩) 1 [[[4], [5], [6]]] from lit_rows (e := 61) (d := (Kd.slice 72 (Kd.int .i32))) [(⟨g17, 0, none⟩, 3, [[4], [5], [6]])] hb (by intro r hr; simp only [List.mem_cons, List.not_mem_nil, or_false] at hr; subst hr; (exact ⟨Nat.le_refl _, cl C17.out⟩))); have B18 := Aside0.mk hw; clear hg hb hw) | ((with_reducible refine gate_dst (N := 1) rfl ?_); refine bxe (N := 1) (cs := #[.slice none 0 0, .slice none 0 0, .slice none 0 0]) (t := 51) ?_; intro g1 hg w1 hb hw; have K1 := Aside0.mk hb; have B1 := Aside0.mk hw; have G1 := Aside0.mk (Nat.le_of_eq hg.symm); clear hg hb hw; obtain ⟨hca, hcb, hcc, hfa, hfb, hfc⟩ := cq3 K1.out))
  clear hca hcb hcc hfa hfb hfc
  have K2 := Aside0.mk (blk_put (blk_put (blk_put K1.out 0 (.slice (some ⟨g8, 0, none⟩) 3 3) rfl) 1 (.slice (some ⟨g13, 0, none⟩) 1 1) rfl) 2 (.slice (some ⟨g18, 0, none⟩) 1 1) rfl)
  have B2 := Aside0.mk (below_set (j := 2) (v := .slice (some ⟨g18, 0, none⟩) 1 1) (below_set (j := 1) (v := .slice (some ⟨g13, 0, none⟩) 1 1) (below_set (j := 0) (v := .slice (some ⟨g8, 0, none⟩) 3 3) B1.out G1.out) G1.out) G1.out)
  clear K1 B1
  generalize ((w1.setCell ⟨g1, 0, none⟩ (.slice (some ⟨g8, 0, none⟩) 3 3)).setCell ⟨g1, 1, none⟩ (.slice (some ⟨g13, 0, none⟩) 1 1)).setCell ⟨g1, 2, none⟩ (.slice (some ⟨g18, 0, none⟩) 1 1) = w2 at K2 B2 ⊢
  refine region_chain 8 8 (B := [0, 0, 3, 7, 15, 15, 31, 127]) (by kernel_rfl) rfl (by kernel_rfl) (by kernel_rfl) ?_
  refine chn_call 41 rfl (fun _ => rfl) Try.func41 (by kernel_rfl) rfl (fun _ => .agg #[.int .i64 c0, .int .i64 c1, .int .i64 c2, .int .i64 c3, .int .i64 c4]) (fun _ _ _ => True) (fun _ => #[]) (fun _ => ar) (fun _ => rfl) (A' := ?Ap1) ?hA1 ?hcall1 ?hrest1
  case hA1 =>
    intro v
    simp only [Act.put, List.setIfInBounds_toArray, List.set_cons_zero, List.set_cons_succ]
    rfl
  case hcall1 =>
    intro v W0 W1 W hW hd
    refine (tillerlaw11_small.calls _ _ _ _ _ W HS1.out).mono ?_
    rintro e W' ⟨rfl, hb⟩
    exact ⟨undef, rfl, trivial, hb⟩
  refine chn_pure (fun _ => rfl) (f := ?f2) (A' := ?Ap2) ?hrun2 ?hmask2 ?hind2 ?hA2 ?hrest2
  case hrun2 =>
    intro v W hW
    obtain ⟨ha, hb, hc, _⟩ := cq3 (blk_below (blk_drew K2.out) hW)
    go_simp
    with_reducible rfl
  case hmask2 => exact fun _ => rfl
  case hind2 => exact fun _ _ => rfl
  case hA2 =>
    intro v
    simp only [Act.put, List.setIfInBounds_toArray, List.set_cons_zero, List.set_cons_succ]
    rfl
  refine chn_call 40 rfl (fun _ => rfl) Try.func40 (by kernel_rfl) rfl (fun v => .tuple #[v 2, .int .i64 es]) (fun y W W' => Kd.R k29 29 W' W.heap.size (fun _ => True) y l) (fun _ => #[.agg #[.int .i64 c0, .int .i64 c1, .int .i64 c2, .int .i64 c3, .int .i64 c4], .agg #[.slice (some ⟨g8, 0, none⟩) 3 3, .slice (some ⟨g13, 0, none⟩) 1 1, .slice (some ⟨g18, 0, none⟩) 1 1], .int .i64 2]) (fun _ => ar) (fun _ => rfl) (A' := ?Ap3) ?hA3 ?hcall3 ?hrest3
  case hA3 =>
    intro v
    simp only [Act.put, List.setIfInBounds_toArray, List.set_cons_zero, List.set_cons_succ]
    rfl
  case hcall3 =>
    intro v W0 W1 W hW hd
    refine (block_Split.calls k c0 c1 c2 c3 c4 (some ⟨g8, 0, none⟩) 3 [5, 6, 7] (some ⟨g13, 0, none⟩) 1 [[[1], [2], [3]]] (some ⟨g18, 0, none⟩) 1 [[[4], [5], [6]]] 2 l es W (cl C8.out) (Nat.le_refl _) (cl C13.out) (Nat.le_refl _) (cl C18.out) (Nat.le_refl _) HSP.out).mono ?_
    rintro e W' ⟨y, rfl, hr, hb⟩
    exact ⟨y, rfl, hr, hb⟩
  refine chn_pure (fun _ => rfl) (f := ?f4) (A' := ?Ap4) ?hrun4 ?hmask4 ?hind4 ?hA4 ?hrest4
  case hrun4 =>
    intro v W hW
    go_simp
    with_reducible rfl
  case hmask4 => exact fun _ => rfl
  case hind4 => exact fun _ _ => rfl
  case hA4 =>
    intro v
    simp only [Act.put, List.setIfInBounds_toArray, List.set_cons_zero, List.set_cons_succ]
    rfl
  refine chn_pure (fun _ => rfl) (f := ?f5) (A' := ?Ap5) ?hrun5 ?hmask5 ?hind5 ?hA5 ?hrest5
  case hrun5 =>
    intro v W hW
    go_simp
    with_reducible rfl
  case hmask5 => exact fun _ => rfl
  case hind5 => exact fun _ _ => rfl
  case hA5 =>
    intro v
    simp only [Act.put, List.setIfInBounds_toArray, List.set_cons_zero, List.set_cons_succ]
    rfl
  refine chn_pure (fun _ => rfl) (f := ?f6) (A' := ?Ap6) ?hrun6 ?hmask6 ?hind6 ?hA6 ?hrest6
  case hrun6 =>
    intro v W hW
    go_simp
    with_reducible rfl
  case hmask6 => exact fun _ => rfl
  case hind6 => exact fun _ _ => rfl
  case hA6 =>
    intro v
    simp only [Act.put, List.setIfInBounds_toArray, List.set_cons_zero, List.set_cons_succ]
    rfl
  refine chn_pure (fun _ => rfl) (f := ?f7) (A' := ?Ap7) ?hrun7 ?hmask7 ?hind7 ?hA7 ?hrest7
  case hrun7 =>
    intro v W hW
    go_simp
    with_reducible rfl
  case hmask7 => exact fun _ => rfl
  case hind7 => exact fun _ _ => rfl
  case hA7 =>
    intro v
    simp only [Act.put, List.setIfInBounds_toArray, List.set_cons_zero, List.set_cons_succ]
    rfl
  refine chn_pure (fun _ => rfl) (f := ?f8) (A' := ?Ap8) ?hrun8 ?hmask8 ?hind8 ?hA8 ?hrest8
  case hrun8 =>
    intro v W hW
    go_simp
    with_reducible rfl
  case hmask8 => exact fun _ => rfl
  case hind8 => exact fun _ _ => rfl
  case hA8 =>
    intro v
    simp only [Act.put, List.setIfInBounds_toArray, List.set_cons_zero, List.set_cons_succ]
    rfl
  intro v W0 W1 W hW hF _
  have hl : Kd.R k29 29 (W1 2) (W0 2).heap.size (fun _ => True) (v 2) l := (hF 2 (by decide)).fact
  have hb2 := (hF 2 (by decide)).b2
  have HL := Aside0.mk (Kd.R_below hl hb2)
  have B3 := Aside0.mk (show Below w2.heap.size w2 W from ⟨hW.os, hW.tape, hW.output, hW.size, hW.block⟩)
  clear hF hl hb2 hW
  refine wpList_nil ?_
  dsimp only
  generalize v 2 = vl at HL ⊢
  obtain ⟨Al, cl2, el⟩ := Kd.R_slice HL.out
  subst el
  go_upto_region 4 with (first | ((with_reducible refine gate_callee (f := 41) rfl ?_); refine goesL_ _ rfl rfl Try.func41 (by kernel_rfl) rfl #[] rfl ar ?_; (with_reducible refine (tillerlaw11_small.calls _ _ _ _ _ _ HS1.out).mono ?_); rintro e w30 ⟨rfl, hb⟩; refine ⟨_, rfl, ?_⟩; have B30 := Aside0.mk hb; clear hb) | ((with_reducible refine gate_callee (f := 16) rfl ?_); refine goesL_ _ rfl rfl Try.func16 (by kernel_rfl) rfl #[.agg #[.int .i64 c0, .int .i64 c1, .int .i64 c2, .int .i64 c3, .int .i64 c4], .string (⟨#[]⟩ : ByteArray)] rfl ar ?_; (with_reducible refine (block_Read.calls k c0 c1 c2 c3 c4 (⟨#[]⟩ : ByteArray) q1 q2 q3 q4 q5 _ HRD.out).mono ?_); rintro e w31 ⟨y0, y2, y3, rfl, hq0, hq2, hq3, hb⟩; obtain ⟨Ya, ya, rfl⟩ := Kd.R_slice hq0; obtain ⟨Yb, yb, rfl⟩ := Kd.R_slice hq2; obtain ⟨Yc, yc, rfl⟩ := Kd.R_slice hq3; refine ⟨_, rfl, ?_⟩; have B31 := Aside0.mk hb; clear hb hq0 hq2 hq3) | ((with_reducible refine gate_dst (N := 4) rfl ?_); refine bxe (N := 4) (cs := #[.slice none 0 0, .int .i64 0, .slice none 0 0, .slice none 0 0]) (t := 29) ?_; intro g4 hg w4 hb hw; have K4 := Aside0.mk hb; have B4 := Aside0.mk hw; have G4 := Aside0.mk (Nat.le_of_eq hg.symm); clear hg hb hw; obtain ⟨hca, hcb, hcc, hcd, hfa, hfb, hfc, hfd⟩ := cq4 K4.out))
  clear hca hcb hcc hcd hfa hfb hfc hfd
  have B5 := Aside0.mk (below_set (j := 3) (v := .slice Yc q4.length yc) (below_set (j := 2) (v := .slice Yb q3.length yb) (below_set (j := 1) (v := .int .i64 q2) (below_set (j := 0) (v := .slice Ya q1.length ya) B4.out G4.out) G4.out) G4.out) G4.out)
  clear K4 B4 G4
  generalize (((w4.setCell ⟨g4, 0, none⟩ (.slice Ya q1.length ya)).setCell ⟨g4, 1, none⟩ (.int .i64 q2)).setCell ⟨g4, 2, none⟩ (.slice Yb q3.length yb)).setCell ⟨g4, 3, none⟩ (.slice Yc q4.length yc) = w5 at B5 ⊢
  go_upto_region 5 with (first | ((with_reducible refine gate_callee (f := 41) rfl ?_); refine goesL_ _ rfl rfl Try.func41 (by kernel_rfl) rfl #[] rfl ar ?_; (with_reducible refine (tillerlaw11_small.calls _ _ _ _ _ _ HS1.out).mono ?_); rintro e w40 ⟨rfl, hb⟩; refine ⟨_, rfl, ?_⟩; have B40 := Aside0.mk hb; clear hb) | ((with_reducible refine gate_callee (f := 42) rfl ?_); refine goesL_ _ rfl rfl Try.func42 (by kernel_rfl) rfl #[] rfl ar ?_; (with_reducible refine (tillerlaw11_ref0.calls b1 b2 b3 b4 _ HR0.out).mono ?_); rintro e w41 ⟨z0, z2, z3, rfl, hz0, hz2, hz3, hb⟩; obtain ⟨Za, za, rfl⟩ := Kd.R_slice hz0; obtain ⟨Zb, zb, rfl⟩ := Kd.N_slice hz2; obtain ⟨Zc, zc, rfl⟩ := Kd.N_slice hz3; refine ⟨_, rfl, ?_⟩; have B41 := Aside0.mk hb; have Z0 := Aside0.mk hz0; have Z2 := Aside0.mk hz2; have Z3 := Aside0.mk hz3; clear hb hz0 hz2 hz3) | ((with_reducible refine gate_callee (f := 12) rfl ?_); refine goesL_ _ rfl rfl Try.func12 (by kernel_rfl) rfl #[.agg #[.int .i64 c0, .int .i64 c1, .int .i64 c2, .int .i64 c3, .int .i64 c4], .agg #[.slice Za b1.length za, .int .i64 b2, .slice Zb b3.length zb, .slice Zc b4.length zc]] rfl ar ?_; (with_reducible refine (block_Bytes.calls k c0 c1 c2 c3 c4 _ _ b1 b2 _ _ _ b3 _ _ _ b4 s sy _ (Kd.R_reads' Z0.out).2.2 (Kd.R_reads' Z0.out).2.1 (Kd.N_V Z2.out) (Kd.N_V Z3.out) HBY.out).mono ?_); rintro e w42 ⟨rfl, hb⟩; refine ⟨_, rfl, ?_⟩; have B42 := Aside0.mk hb; clear hb))
  have HL2 := Aside0.mk (show Kd.C k29 w42 Al l.length l from cl (Kd.R_reads' HL.out).2.2)
  have BF := Aside0.mk (show Below w.heap.size w w42 from gl)
  have H := HH.out
  clear HH HL B3 B30 B31 B5 B40 B41 B42 Z0 Z2 Z3 K2 B2
  by_cases u1 : es = 0
  case neg =>
    rw [if_neg u1] at H
    have u1b : (es == 0) = false := beq_eq_false_iff_ne.mpr u1
    obtain rfl := Option.some.inj H
    clear u1
    go_wp2
    go_ret
    exact ⟨by first | rfl | (simp; done) | (simp [*]; done), BF.out⟩
  rw [if_pos u1] at H
  have u1b : (es == 0) = true := beq_iff_eq.mpr u1
  clear u1
  by_cases u2 : q5 = 11
  case neg =>
    rw [if_neg u2] at H
    have u2b : (q5 == 11) = false := beq_eq_false_iff_ne.mpr u2
    obtain rfl := Option.some.inj H
    clear u2
    go_wp2
    go_ret
    exact ⟨by first | rfl | (simp; done) | (simp [*]; done), BF.out⟩
  rw [if_pos u2] at H
  have u2b : (q5 == 11) = true := beq_iff_eq.mpr u2
  clear u2
  by_cases u3 : sy = 0
  case neg =>
    rw [if_neg u3] at H
    have u3b : (sy == 0) = false := beq_eq_false_iff_ne.mpr u3
    obtain rfl := Option.some.inj H
    clear u3
    go_wp2
    go_ret
    exact ⟨by first | rfl | (simp; done) | (simp [*]; done), BF.out⟩
  rw [if_pos u3] at H
  have u3b : (sy == 0) = true := beq_iff_eq.mpr u3
  clear u3
  by_cases u4 : (l.length : Int) = 2
  case neg =>
    rw [if_neg u4] at H
    have u4b : ((l.length : Int) == 2) = false := beq_eq_false_iff_ne.mpr u4
    obtain rfl := Option.some.inj H
    clear u4
    go_wp2
    go_ret
    exact ⟨by first | rfl | (simp; done) | (simp [*]; done), BF.out⟩
  rw [if_pos u4] at H
  have u4b : ((l.length : Int) == 2) = true := beq_iff_eq.mpr u4
  have u5 : 1 < (l.length : Int) := by omega
  rw [if_pos u5] at H
  have p1 : 0 ≤ (1 : Int) := by decide
  obtain ⟨ad, A0, k0, A2, k2, A3, k3, e, hx0, hx1, hx2, hx3, _⟩ := at_T29 HL2.out 1 p1 u5
  cases e
  have ea : ad.add (Int.toNat 1 * 4) = ⟨ad.block, ad.off + 4, none⟩ := by simp [Addr.add]
  rw [ea] at hx0 hx1 hx2 hx3
  clear ea
  dsimp only at hx0 hx1 hx2 hx3
  have u5b : decide (1 < (l.length : Int)) = true := decide_eq_true u5
  have u5c : decide (1 < l.length) = true := decide_eq_true (by omega)
  replace p1 := eq_true p1
  replace u5 := eq_true u5
  clear u4
  by_cases u6 : (rd_T29 l 1).f1 = 2
  case neg =>
    rw [if_neg u6] at H
    have u6b : ((rd_T29 l 1).f1 == 2) = false := beq_eq_false_iff_ne.mpr u6
    obtain rfl := Option.some.inj H
    clear u6
    go_wp2
    go_ret
    exact ⟨by first | rfl | (simp; done) | (simp [*]; done), BF.out⟩
  rw [if_pos u6] at H
  have u6b : ((rd_T29 l 1).f1 == 2) = true := beq_iff_eq.mpr u6
  clear u6
  by_cases u7 : ((rd_T29 l 1).f0.length : Int) = 3
  case neg =>
    rw [if_neg u7] at H
    have u7b : (((rd_T29 l 1).f0.length : Int) == 3) = false := beq_eq_false_iff_ne.mpr u7
    obtain rfl := Option.some.inj H
    clear u7
    go_wp2
    go_ret
    exact ⟨by first | rfl | (simp; done) | (simp [*]; done), BF.out⟩
  rw [if_pos u7] at H
  have u7b : (((rd_T29 l 1).f0.length : Int) == 3) = true := beq_iff_eq.mpr u7
  clear u7
  obtain rfl := Option.some.inj H
  go_wp2
  go_ret
  exact ⟨by first | rfl | (simp; done) | (simp [*]; done), BF.out⟩
end Go.Proofs.Ytepbebelbcbciaa.Q
