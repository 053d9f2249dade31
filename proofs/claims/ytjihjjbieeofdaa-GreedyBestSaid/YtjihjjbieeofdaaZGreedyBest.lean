/- The statement GreedyBest, out of what its function comes to. No condition. -/
import Derived.Test.YtjihjjbieeofdaaRows
import Derived.Test.YtjihjjbieeofdaaPGreedyBest
import Derived.WalkKit
import Derived.ProofKit
import Derived.OpenShut
import Derived.ShutString
import Derived.ChangeOld
import Derived.Below
import Derived.SizedLaws
import Derived.Carry
namespace Go.Proofs.Ytjihjjbieeofdaa.greedyBest
open Go.ChangeShapes Go.WideShapes Go.ChangeAt Go.RowKit Go.Proofs.Ytjihjjbieeofdaa.T
set_option linter.unusedVariables false
theorem own : ownKnob Try.prog.godebug = none := by kernel_rfl
theorem laidOut : laidOutB Try.prog = true := by kernel_rfl
set_option maxRecDepth 100000 in
theorem lifted (os : Os) (started : os.Started) (H : Type) (enc : TypeId × Value → H) :
    ReturnsInHanded {} Try.checked os 8 .any (Rows.greedyBestSpec.pre6 enc Try.prog Try.f8 Rows.greedyBestRow.domain false) (Rows.greedyBestSpec.post enc Try.prog Try.f8 false true false false) := by
  refine returnsInHanded_of_change_sized (C := Try.checked) own started (by kernel_rfl) Try.func8
    (ChangeSpec.witness6 (enc := enc) (C := Try.checked) false ⟨#[], #[.agg #[.int .i64 0, .int .i64 0, .int .i64 0, .int .i64 0, .int .i64 0], .int .u64 0, .slice none 0 0, .int .i64 0], []⟩ 8 (by kernel_rfl) (by kernel_rfl) (by kernel_rfl) (by kernel_rfl)) ?_
  intro W base args ds gs before hval0 hW hcnd hsz0 _
  have hsz : (DataW.weightsEach Try.prog (Try.f8.params.toList ++ Rows.greedyBestSpec.plain.varTypes Try.prog) (ds ++ gs)).all (· ≤ reachBytes) = true := hsz0
  have hval : ∀ (j : Nat) t v, Try.f8.params[j]? = some t → args[j]? = some v → Value.okWide Try.prog W .any base t v := hval0
  have hW' := hW
  obtain ⟨p, q, hA0, hV, rfl, hfz, hnd⟩ := hW
  have hA : DataW.TrodAll enc Try.prog W 0 (fun _ => true) true Try.f8.params.toList args.toList ds p := hA0
  rw [Try.params8] at hA hval hsz
  obtain ⟨v0, vs0, d0, ds0, p0, q0, hargs, rfl, rfl, h0, r0⟩ := trodAll_cons hA
  obtain ⟨v1, vs1, d1, ds1, p1, q1, rfl, rfl, rfl, h1, r1⟩ := trodAll_cons r0
  obtain ⟨v2, vs2, d2, ds2, p2, q2, rfl, rfl, rfl, h2, r2⟩ := trodAll_cons r1
  obtain ⟨v3, vs3, d3, ds3, p3, q3, rfl, rfl, rfl, h3, r3⟩ := trodAll_cons r2
  obtain ⟨rfl, rfl, rfl⟩ := trodAll_nil r3
  obtain rfl : args = #[v0, v1, v2, v3] := by cases args; simp_all
  obtain ⟨rfl, rfl⟩ := trodVars_none hV
  have k0_ := h0
  have lt0 : ∀ x ∈ p0, x.block < W.heap.size := by obtain ⟨m, hm⟩ := k0_; exact DataW.trod_lt m _ _ _ hm
  obtain ⟨x0, hK0, hw0⟩ := h0.elim fun fuel hf => (rdCfg).out enc W fuel _ _ (sized_each hsz (j := 0) (t := 23) rfl rfl) hf
  obtain ⟨c0, rfl, _⟩ := okWide_struct Try.underlying23 (hval 0 23 v0 rfl rfl)
  have rw0 := rw_agg hK0
  have k1_ := h1
  have lt1 : ∀ x ∈ p1, x.block < W.heap.size := by obtain ⟨m, hm⟩ := k1_; exact DataW.trod_lt m _ _ _ hm
  obtain ⟨x1, hK1, hw1⟩ := h1.elim fun fuel hf => (rdU64).out enc W fuel _ _ (sized_each hsz (j := 1) (t := 76) rfl rfl) hf
  obtain ⟨a1, rfl⟩ := okWide_int Try.underlying76 (hval 1 76 v1 rfl rfl)
  have rw1 := rw_int hK1
  have k2_ := h2
  have lt2 : ∀ x ∈ p2, x.block < W.heap.size := by obtain ⟨m, hm⟩ := k2_; exact DataW.trod_lt m _ _ _ hm
  obtain ⟨x2, hK2, hw2⟩ := h2.elim fun fuel hf => (rdInts).out enc W fuel _ _ (sized_each hsz (j := 2) (t := 27) rfl rfl) hf
  obtain ⟨a2, len2, cap2, rfl⟩ := okWide_slice Try.underlying27 (hval 2 27 v2 rfl rfl)
  have rw2 := rw_sl hK2
  have k3_ := h3
  have lt3 : ∀ x ∈ p3, x.block < W.heap.size := by obtain ⟨m, hm⟩ := k3_; exact DataW.trod_lt m _ _ _ hm
  obtain ⟨x3, hK3, hw3⟩ := h3.elim fun fuel hf => (rdInt).out enc W fuel _ _ (sized_each hsz (j := 3) (t := 3) rfl rfl) hf
  obtain ⟨a3, rfl⟩ := okWide_int Try.underlying3 (hval 3 3 v3 rfl rfl)
  have rw3 := rw_int hK3
  clear hA0 hval0 hsz0 hsz
  have hlaw := greedybest_law x0 x1 x2 x3 hw1 hw2 hw3
  refine (((hlaw).f (fun e he l hl => by cases he; cases hl)).calls (Old W) W _ rfl (fun j e v he hv => ?_) (fun b hb => hb)).mono fun e W' hh => ?_
  · match j with
    | 0 => cases he; cases hv; exact rw0
    | 1 => cases he; cases hv; exact rw1
    | 2 => cases he; cases hv; exact rw2
    | 3 => cases he; cases hv; exact rw3
    | n + 4 => cases he
  · obtain ⟨v, S, ts, he, bel, hrt, _⟩ := hh
    have hv := rt_true hrt
    subst hv
    subst he
    exact ⟨_, rfl, _, _, _, [], _, [], hW', trodAll_mk1 (shut_bool Try.underlying4 _), (trodAll_cons_mk (Below.trod laidOut (by kernel_rfl) (of_decide_eq_true (by kernel_rfl)) k0_ bel lt0) (trodAll_cons_mk (Below.trod laidOut (by kernel_rfl) (of_decide_eq_true (by kernel_rfl)) k1_ bel lt1) (trodAll_cons_mk (Below.trod laidOut (by kernel_rfl) (of_decide_eq_true (by kernel_rfl)) k2_ bel lt2) (trodAll_cons_mk (Below.trod laidOut (by kernel_rfl) (of_decide_eq_true (by kernel_rfl)) k3_ bel lt3) trodAll_mk0)))), rfl, bel.frame _, fun h => by cases h⟩
theorem over : Rows.greedyBestRow.holds Try.pinned (OpenSpec.ofChange Rows.greedyBestSpec) :=
  OpenClaim.holds_of_wide 8 Try.f8 rfl rfl rfl rfl rfl rfl rfl ⟨rfl, rfl, rfl, rfl, rfl⟩ rfl rfl rfl rfl rfl (by kernel_rfl) Try.func8 (by kernel_rfl)
    (of_decide_eq_true (by kernel_rfl)) (by unfold Func.isWrapper; first | (rw [if_pos (by decide +kernel)]; kernel_rfl) | (rw [if_neg (by decide +kernel)]; exact ⟨rfl, rfl⟩))
    (fun os started H enc _ => lifted os started H enc)
theorem proved : Rows.GreedyBestSaid := over
#print axioms proved
end Go.Proofs.Ytjihjjbieeofdaa.greedyBest
namespace Go.Proofs.Ytjihjjbieeofdaa
/-- The row, under a short name, for the claim. -/
theorem greedyBest_holds : Rows.GreedyBestSaid := greedyBest.proved
end Go.Proofs.Ytjihjjbieeofdaa
