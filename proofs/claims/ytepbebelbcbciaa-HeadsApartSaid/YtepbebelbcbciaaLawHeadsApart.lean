/- Functions of the program as plain Lean functions, each with a proof that the program's call comes to what it says; and rows of statements over them. No condition but those that the theorems name. Written by a program of this session (myprint.py, over the kit's print with patches of its own). -/
import Derived.Below
import Derived.Carry
import Derived.ChangeOld
import Derived.OpenShut
import Derived.ProofKit
import Derived.ShutString
import Derived.SizedLaws
import Derived.Test.YtepbebelbcbciaaPureHeadsApart
import Derived.Test.YtepbebelbcbciaaRows
import Derived.WalkKit
import Derived.Test.YtepbebelbcbciaaApartWalk
import Derived.Test.YtepbebelbcbciaaOpen
import Derived.Test.YtepbebelbcbciaaYWords
namespace Go.Proofs.Ytepbebelbcbciaa.headsApart
open Go.ChangeShapes Go.WideShapes Go.ChangeAt Go.RowKit Go.Proofs.Ytepbebelbcbciaa.Q Go.Proofs.YtepbebelbcbciaaW.PrintWords Go.Proofs.YtepbebelbcbciaaW.PrintLast
open Go.ChangeMaps (open_string shut_string)
theorem own : ownKnob Try.prog.godebug = none := by kernel_rfl
theorem laidOut : laidOutB Try.prog = true := by kernel_rfl
set_option maxRecDepth 100000 in
theorem lifted (os : Os) (started : os.Started) (H : Type) (enc : TypeId × Value → H) :
    ReturnsInHanded {} Try.checked os 7 .any (Rows.headsApartSpec.pre6 enc Try.prog Try.f7 Rows.headsApartRow.domain false) (Rows.headsApartSpec.post enc Try.prog Try.f7 false true false false) := by
  refine returnsInHanded_of_change_sized (C := Try.checked) own started (by kernel_rfl) Try.func7
    (ChangeSpec.witness6 (enc := enc) (C := Try.checked) false ⟨#[], #[.slice none 0 0, .slice none 0 0, .slice none 0 0, .int .i32 0], []⟩ 8 (by kernel_rfl) (by kernel_rfl) (by kernel_rfl) (by kernel_rfl)) ?_
  intro W base args ds gs before hval0 hW hcnd hsz0 _
  have hsz : (DataW.weightsEach Try.prog (Try.f7.params.toList ++ Rows.headsApartSpec.plain.varTypes Try.prog) (ds ++ gs)).all (· ≤ reachBytes) = true := hsz0
  have hval : ∀ (j : Nat) t v, Try.f7.params[j]? = some t → args[j]? = some v → Value.okWide Try.prog W .any base t v := hval0
  have hW' := hW
  obtain ⟨p, q, hA0, hV, rfl, hfz, hnd⟩ := hW
  have hA : DataW.TrodAll enc Try.prog W 0 (fun _ => true) true Try.f7.params.toList args.toList ds p := hA0
  rw [Try.params7] at hA hval hsz
  obtain ⟨v0, vs0, d0, ds0, p0, q0, hargs, rfl, rfl, h0, r0⟩ := trodAll_cons hA
  obtain ⟨v1, vs1, d1, ds1, p1, q1, rfl, rfl, rfl, h1, r1⟩ := trodAll_cons r0
  obtain ⟨v2, vs2, d2, ds2, p2, q2, rfl, rfl, rfl, h2, r2⟩ := trodAll_cons r1
  obtain ⟨v3, vs3, d3, ds3, p3, q3, rfl, rfl, rfl, h3, r3⟩ := trodAll_cons r2
  obtain ⟨rfl, rfl, rfl⟩ := trodAll_nil r3
  obtain rfl : args = #[v0, v1, v2, v3] := by cases args; simp_all
  obtain ⟨rfl, rfl⟩ := trodVars_none hV
  have k0_ := h0
  have lt0 : ∀ x ∈ p0, x.block < W.heap.size := by obtain ⟨m, hm⟩ := k0_; exact DataW.trod_lt m _ _ _ hm
  obtain ⟨x0, hK0, hw0⟩ : ∃ x, (Kd.slice 72 (Kd.int .i32)).K W x v0.cells.toList ∧ (WfRow 4 (WfInt .i32)) x := by obtain ⟨fuel, hf⟩ := h0; exact (opens_slice Try.underlying61 (by kernel_rfl) (by kernel_rfl) (opens_int Try.underlying72)) enc W fuel _ _ (sized_each hsz (j := 0) (t := 61) rfl rfl) hf
  obtain ⟨a0, len0, cap0, rfl⟩ := okWide_slice Try.underlying61 (hval 0 61 v0 rfl rfl)
  obtain ⟨A0, c0, he0, l0, g0⟩ := hK0
  obtain ⟨rfl, rfl, rfl⟩ : a0 = A0 ∧ len0 = x0.length ∧ cap0 = c0 := by simpa [Value.cells] using he0
  have k1_ := h1
  have lt1 : ∀ x ∈ p1, x.block < W.heap.size := by obtain ⟨m, hm⟩ := k1_; exact DataW.trod_lt m _ _ _ hm
  obtain ⟨x1, hK1, hw1⟩ : ∃ x, (Kd.slice 61 (Kd.slice 72 (Kd.int .i32))).K W x v1.cells.toList ∧ (WfRow 24 (WfRow 4 (WfInt .i32))) x := by obtain ⟨fuel, hf⟩ := h1; exact (opens_slice Try.underlying62 (by kernel_rfl) (by kernel_rfl) (opens_slice Try.underlying61 (by kernel_rfl) (by kernel_rfl) (opens_int Try.underlying72))) enc W fuel _ _ (sized_each hsz (j := 1) (t := 62) rfl rfl) hf
  obtain ⟨a1, len1, cap1, rfl⟩ := okWide_slice Try.underlying62 (hval 1 62 v1 rfl rfl)
  obtain ⟨A1, c1, he1, l1, g1⟩ := hK1
  obtain ⟨rfl, rfl, rfl⟩ : a1 = A1 ∧ len1 = x1.length ∧ cap1 = c1 := by simpa [Value.cells] using he1
  have k2_ := h2
  have lt2 : ∀ x ∈ p2, x.block < W.heap.size := by obtain ⟨m, hm⟩ := k2_; exact DataW.trod_lt m _ _ _ hm
  obtain ⟨x2, hK2, hw2⟩ : ∃ x, (Kd.slice 61 (Kd.slice 72 (Kd.int .i32))).K W x v2.cells.toList ∧ (WfRow 24 (WfRow 4 (WfInt .i32))) x := by obtain ⟨fuel, hf⟩ := h2; exact (opens_slice Try.underlying62 (by kernel_rfl) (by kernel_rfl) (opens_slice Try.underlying61 (by kernel_rfl) (by kernel_rfl) (opens_int Try.underlying72))) enc W fuel _ _ (sized_each hsz (j := 2) (t := 62) rfl rfl) hf
  obtain ⟨a2, len2, cap2, rfl⟩ := okWide_slice Try.underlying62 (hval 2 62 v2 rfl rfl)
  obtain ⟨A2, c2, he2, l2, g2⟩ := hK2
  obtain ⟨rfl, rfl, rfl⟩ : a2 = A2 ∧ len2 = x2.length ∧ cap2 = c2 := by simpa [Value.cells] using he2
  have k3_ := h3
  have lt3 : ∀ x ∈ p3, x.block < W.heap.size := by obtain ⟨m, hm⟩ := k3_; exact DataW.trod_lt m _ _ _ hm
  obtain ⟨x3, hK3, hw3⟩ : ∃ x, (Kd.int .i32).K W x v3.cells.toList ∧ (WfInt .i32) x := by obtain ⟨fuel, hf⟩ := h3; exact (opens_int Try.underlying72) enc W fuel _ _ (sized_each hsz (j := 3) (t := 72) rfl rfl) hf
  obtain ⟨a3, rfl⟩ := okWide_int Try.underlying72 (hval 3 72 v3 rfl rfl)
  obtain rfl : a3 = x3 := by simpa [Value.cells, Kd.int, Kd.scalar] using hK3
  clear hA0 hval0 hsz0 hsz
  obtain ⟨k, hP⟩ := Pure.HeadsApart x0 x1 x2 a3 hw0 hw1 hw2 hw3
  refine (tillerlaw07_HeadsApart.calls k _ _ x0 _ _ x1 _ _ x2 a3 true W g0 l0 g1 l1 g2 l2 hP).mono fun e W' ⟨he, bel⟩ => ?_
  subst he
  exact ⟨_, rfl, _, _, _, [], _, [], hW', trodAll_mk1 (shut_bool Try.underlying4 _), (trodAll_cons_mk (Below.trod laidOut (by kernel_rfl) (of_decide_eq_true (by kernel_rfl)) k0_ bel lt0) (trodAll_cons_mk (Below.trod laidOut (by kernel_rfl) (of_decide_eq_true (by kernel_rfl)) k1_ bel lt1) (trodAll_cons_mk (Below.trod laidOut (by kernel_rfl) (of_decide_eq_true (by kernel_rfl)) k2_ bel lt2) (trodAll_cons_mk (Below.trod laidOut (by kernel_rfl) (of_decide_eq_true (by kernel_rfl)) k3_ bel lt3) trodAll_mk0)))), rfl, bel.frame _, fun h => by cases h⟩
theorem over : Rows.headsApartRow.holds Try.pinned (OpenSpec.ofChange Rows.headsApartSpec) :=
  OpenClaim.holds_of_wide 7 Try.f7 rfl rfl rfl rfl rfl rfl rfl ⟨rfl, rfl, rfl, rfl, rfl⟩ rfl rfl rfl rfl rfl (by kernel_rfl) Try.func7 (by kernel_rfl)
    (of_decide_eq_true (by kernel_rfl)) (by unfold Func.isWrapper; first | (rw [if_pos (by decide +kernel)]; kernel_rfl) | (rw [if_neg (by decide +kernel)]; exact ⟨rfl, rfl⟩))
    (fun os started H enc _ => lifted os started H enc)
theorem proved : Rows.HeadsApartSaid := over
#print axioms proved
end Go.Proofs.Ytepbebelbcbciaa.headsApart
namespace Go.Proofs.Ytepbebelbcbciaa
/-- The row, under a short name, for the claim. -/
theorem headsApart_holds : Rows.HeadsApartSaid := headsApart.proved
end Go.Proofs.Ytepbebelbcbciaa
