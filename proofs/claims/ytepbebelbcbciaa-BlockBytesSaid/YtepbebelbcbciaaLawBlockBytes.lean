/- Functions of the program as plain Lean functions, each with a proof that the program's call comes to what it says; and rows of statements over them. No condition but those that the theorems name. Written by a program of this session (myprint.py, over the kit's print with patches of its own). -/
import Derived.Test.YtepbebelbcbciaaRows
import Derived.Test.YtepbebelbcbciaaPgBlockBytes
import Derived.Test.YtepbebelbcbciaaPureBlockBytes
import Derived.WalkKit
import Derived.ProofKit
import Derived.OpenShut
import Derived.ShutString
import Derived.ChangeOld
import Derived.Below
import Derived.SizedLaws
import Derived.Carry
namespace Go.Proofs.Ytepbebelbcbciaa.blockBytes
open Go.ChangeShapes Go.WideShapes Go.ChangeAt Go.RowKit Go.Proofs.Ytepbebelbcbciaa.Q Go.Proofs.YtepbebelbcbciaaW.PrintWords Go.Proofs.YtepbebelbcbciaaW.PrintLast
open Go.ChangeMaps (open_string shut_string)
set_option linter.unusedVariables false
theorem own : ownKnob Try.prog.godebug = none := by kernel_rfl
theorem laidOut : laidOutB Try.prog = true := by kernel_rfl
theorem opens23_23 : Opens Try.prog 23 k23 wf23 := opens_iso (f := fun x : S23 => (x.f0, x.f1, x.f2, x.f3, x.f4)) (fun p => ⟨p.1, p.2.1, p.2.2.1, p.2.2.2.1, p.2.2.2.2⟩) (fun _ => rfl) (opens_struct Try.underlying23 (by kernel_rfl) (seg_cons rfl (by kernel_rfl) (opens_int Try.underlying3) (seg_cons rfl (by kernel_rfl) (opens_int Try.underlying3) (seg_cons rfl (by kernel_rfl) (opens_int Try.underlying3) (seg_cons rfl (by kernel_rfl) (opens_int Try.underlying3) (seg_one rfl (by kernel_rfl) (opens_int Try.underlying3)))))))
theorem opens27_27 : Opens Try.prog 27 k27 wf27 := opens_iso (f := fun x : S27 => (x.f0, x.f1)) (fun p => ⟨p.1, p.2⟩) (fun _ => rfl) (opens_struct Try.underlying27 (by kernel_rfl) (seg_cons rfl (by kernel_rfl) (opens_slice Try.underlying25 (by kernel_rfl) (by kernel_rfl) (opens_slice Try.underlying62 (by kernel_rfl) (by kernel_rfl) (opens_slice Try.underlying61 (by kernel_rfl) (by kernel_rfl) (opens_int Try.underlying72)))) (seg_one rfl (by kernel_rfl) (opens_slice Try.underlying25 (by kernel_rfl) (by kernel_rfl) (opens_slice Try.underlying62 (by kernel_rfl) (by kernel_rfl) (opens_slice Try.underlying61 (by kernel_rfl) (by kernel_rfl) (opens_int Try.underlying72)))))))
theorem opens29_29 : Opens Try.prog 29 k29 wf29 := opens_iso (f := fun x : S29 => (x.f0, x.f1, x.f2)) (fun p => ⟨p.1, p.2.1, p.2.2⟩) (fun _ => rfl) (opens_struct Try.underlying29 (by kernel_rfl) (seg_cons rfl (by kernel_rfl) (opens_slice Try.underlying24 (by kernel_rfl) (by kernel_rfl) (opens_int Try.underlying3)) (seg_cons rfl (by kernel_rfl) (opens_int Try.underlying3) (seg_one rfl (by kernel_rfl) opens27_27))))
set_option maxRecDepth 100000 in
theorem lifted (os : Os) (started : os.Started) (H : Type) (enc : TypeId × Value → H) :
    ReturnsInHanded {} Try.checked os 3 .any (Rows.blockBytesSpec.pre6 enc Try.prog Try.f3 Rows.blockBytesRow.domain false) (Rows.blockBytesSpec.post enc Try.prog Try.f3 false true false false) := by
  refine returnsInHanded_of_change_sized (C := Try.checked) own started (by kernel_rfl) Try.func3
    (ChangeSpec.witness6 (enc := enc) (C := Try.checked) false ⟨#[], #[.agg #[.int .i64 0, .int .i64 0, .int .i64 0, .int .i64 0, .int .i64 0], .agg #[.slice none 0 0, .int .i64 0, .slice none 0 0, .slice none 0 0], .string ByteArray.empty], []⟩ 8 (by kernel_rfl) (by kernel_rfl) (by kernel_rfl) (by kernel_rfl)) ?_
  intro W base args ds gs before hval0 hW hcnd hsz0 _
  have hsz : (DataW.weightsEach Try.prog (Try.f3.params.toList ++ Rows.blockBytesSpec.plain.varTypes Try.prog) (ds ++ gs)).all (· ≤ reachBytes) = true := hsz0
  have hval : ∀ (j : Nat) t v, Try.f3.params[j]? = some t → args[j]? = some v → Value.okWide Try.prog W .any base t v := hval0
  have hW' := hW
  obtain ⟨p, q, hA0, hV, rfl, hfz, hnd⟩ := hW
  have hA : DataW.TrodAll enc Try.prog W 0 (fun _ => true) true Try.f3.params.toList args.toList ds p := hA0
  rw [Try.params3] at hA hval hsz
  obtain ⟨v0, vs0, d0, ds0, p0, q0, hargs, rfl, rfl, h0, r0⟩ := trodAll_cons hA
  obtain ⟨v1, vs1, d1, ds1, p1, q1, rfl, rfl, rfl, h1, r1⟩ := trodAll_cons r0
  obtain ⟨v2, vs2, d2, ds2, p2, q2, rfl, rfl, rfl, h2, r2⟩ := trodAll_cons r1
  obtain ⟨rfl, rfl, rfl⟩ := trodAll_nil r2
  obtain rfl : args = #[v0, v1, v2] := by cases args; simp_all
  obtain ⟨rfl, rfl⟩ := trodVars_none hV
  have k0_ := h0
  have lt0 : ∀ x ∈ p0, x.block < W.heap.size := by obtain ⟨m, hm⟩ := k0_; exact DataW.trod_lt m _ _ _ hm
  obtain ⟨x0, hK0, hw0⟩ : ∃ x, k23.K W x v0.cells.toList ∧ wf23 x := by obtain ⟨fuel, hf⟩ := h0; exact (opens23_23).out enc W fuel _ _ (sized_each hsz (j := 0) (t := 23) rfl rfl) hf
  obtain ⟨cs0, rfl, _⟩ := okWide_struct Try.underlying23 (hval 0 23 v0 rfl rfl)
  have ehc0 := k23_open hK0
  obtain rfl : cs0 = #[.int .i64 x0.f0, .int .i64 x0.f1, .int .i64 x0.f2, .int .i64 x0.f3, .int .i64 x0.f4] := by cases cs0; simp_all [Value.cells]
  have k1_ := h1
  have lt1 : ∀ x ∈ p1, x.block < W.heap.size := by obtain ⟨m, hm⟩ := k1_; exact DataW.trod_lt m _ _ _ hm
  obtain ⟨x1, hK1, hw1⟩ : ∃ x, k29.K W x v1.cells.toList ∧ wf29 x := by obtain ⟨fuel, hf⟩ := h1; exact (opens29_29).out enc W fuel _ _ (sized_each hsz (j := 1) (t := 29) rfl rfl) hf
  obtain ⟨cs1, rfl, _⟩ := okWide_struct Try.underlying29 (hval 1 29 v1 rfl rfl)
  obtain ⟨A1_0, c1_0, A1_2, c1_2, A1_3, c1_3, ehc1, l1_0, g1_0, l1_2, g1_2, l1_3, g1_3⟩ := k29_open hK1
  obtain rfl : cs1 = #[.slice A1_0 x1.f0.length c1_0, .int .i64 x1.f1, .slice A1_2 x1.f2.f0.length c1_2, .slice A1_3 x1.f2.f1.length c1_3] := by cases cs1; simp_all [Value.cells]
  have k2_ := h2
  have lt2 : ∀ x ∈ p2, x.block < W.heap.size := by obtain ⟨m, hm⟩ := k2_; exact DataW.trod_lt m _ _ _ hm
  obtain ⟨x2, hK2, hw2⟩ : ∃ x, Kd.string.K W x v2.cells.toList ∧ WfStr x := by obtain ⟨fuel, hf⟩ := h2; exact ((opens_string Try.underlying9)).out enc W fuel _ _ (sized_each hsz (j := 2) (t := 9) rfl rfl) hf
  obtain ⟨a2, rfl⟩ := okWide_string Try.underlying9 (hval 2 9 v2 rfl rfl)
  obtain rfl : a2 = x2 := by simpa [Value.cells, Kd.string, Kd.scalar] using hK2
  clear hA0 hval0 hsz0 hsz
  obtain ⟨k, hP⟩ := Pure.BlockBytes x0 x1 a2 hw0 hw1 hw2
  refine (tillerlaw11_BlockBytes.calls k x0.f0 x0.f1 x0.f2 x0.f3 x0.f4 A1_0 c1_0 x1.f0 x1.f1 A1_2 c1_2 x1.f2.f0 A1_3 c1_3 x1.f2.f1 a2 true W g1_0 l1_0 g1_2 l1_2 g1_3 l1_3 hP).mono fun e W' ⟨he, bel⟩ => ?_
  subst he
  exact ⟨_, rfl, _, _, _, [], _, [], hW', trodAll_mk1 (shut_bool Try.underlying4 _), (trodAll_cons_mk (Below.trod laidOut (by kernel_rfl) (of_decide_eq_true (by kernel_rfl)) k0_ bel lt0) (trodAll_cons_mk (Below.trod laidOut (by kernel_rfl) (of_decide_eq_true (by kernel_rfl)) k1_ bel lt1) (trodAll_cons_mk (Below.trod laidOut (by kernel_rfl) (of_decide_eq_true (by kernel_rfl)) k2_ bel lt2) trodAll_mk0))), rfl, bel.frame _, fun h => by cases h⟩
theorem over : Rows.blockBytesRow.holds Try.pinned (OpenSpec.ofChange Rows.blockBytesSpec) :=
  OpenClaim.holds_of_wide 3 Try.f3 rfl rfl rfl rfl rfl rfl rfl ⟨rfl, rfl, rfl, rfl, rfl⟩ rfl rfl rfl rfl rfl (by kernel_rfl) Try.func3 (by kernel_rfl)
    (of_decide_eq_true (by kernel_rfl)) (by unfold Func.isWrapper; first | (rw [if_pos (by decide +kernel)]; kernel_rfl) | (rw [if_neg (by decide +kernel)]; exact ⟨rfl, rfl⟩))
    (fun os started H enc _ => lifted os started H enc)
theorem proved : Rows.BlockBytesSaid := over
#print axioms proved
end Go.Proofs.Ytepbebelbcbciaa.blockBytes
namespace Go.Proofs.Ytepbebelbcbciaa
/-- The row, under a short name, for the claim. -/
theorem blockBytes_holds : Rows.BlockBytesSaid := blockBytes.proved
end Go.Proofs.Ytepbebelbcbciaa
