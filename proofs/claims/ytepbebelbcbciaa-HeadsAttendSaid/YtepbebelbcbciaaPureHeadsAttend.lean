/- The statement HeadsAttend without Go and memory: values are mixed head by head as the document says, or the same error is told. No condition but that the rows are ones of a machine. -/
import Derived.Test.YtepbebelbcbciaaPgHeadsAttend
import Derived.Test.YtepbebelbcbciaaQx10
import Derived.Test.YtepbebelbcbciaaQx6
import Derived.Test.YtepbebelbcbciaaAwake07
import Derived.Test.YtepbebelbcbciaaEv
import Derived.Test.YtepbebelbcbciaaHeads
import Derived.Test.YtepbebelbcbciaaHeads2
import Derived.Test.YtepbebelbcbciaaSoft
import Derived.Test.YtepbebelbcbciaaSoft3
namespace Go.Proofs.Ytepbebelbcbciaa.Pure
open Go.RowKit Go.Proofs.Ytepbebelbcbciaa.Q Go.Proofs.YtepbebelbcbciaaW.PrintWords Go.Proofs.YtepbebelbcbciaaW.PrintLast
set_option linter.unusedVariables false
set_option linter.unusedSimpArgs false

theorem HeadsAttend : tillerlaw07_HeadsAttend.PureG := by
  intro l0 l1 l2 n h0 h1 h2 h3
  refine Ev.rounds (?_ : Ev (fun k => tillerlaw07_HeadsAttend.f k l0 l1 l2 n) true)
  unfold tillerlaw07_HeadsAttend.f
  have hR1 : Rows32 l1 := fun r hr => ⟨(h1.2 r hr).1, fun x hx => i32_of_wf ((h1.2 r hr).2 x hx)⟩
  have hR2 : Rows32 l2 := fun r hr => ⟨(h2.2 r hr).1, fun x hx => i32_of_wf ((h2.2 r hr).2 x hx)⟩
  refine ev_some (few_eq l0 40 h0.1) (Ev.bind (rows_ev l1 140 hR1 (by decide)) (Ev.bind (rows_ev l2 140 hR2 (by decide)) ?_))
  have wq : ∀ x ∈ l0.take 40, I32 x := fun x hx => i32_of_wf (h0.2 x (List.mem_of_mem_take hx))
  have hlq : (l0.take 40).length ≤ 40 := by rw [List.length_take]; omega
  have wk : ∀ r ∈ few40 l1 140, ∀ x ∈ r, I32 x := fun r hr => (few40_row hR1 hr).2
  have wv : ∀ r ∈ few40 l2 140, ∀ x ∈ r, I32 x := fun r hr => (few40_row hR2 hr).2
  have hlk : (few40 l1 140).length ≤ 140 := by rw [few40_length]; omega
  have hlv : (few40 l2 140).length ≤ 140 := by rw [few40_length]; omega
  generalize l0.take 40 = q at *
  generalize few40 l1 140 = ks at *
  generalize few40 l2 140 = vs at *
  obtain ⟨e, he, hd, hfit⟩ := fit_both q ks vs n (by omega) (by omega) (by omega)
  by_cases c : e = 0
  · subst c
    have F := hfit.1 rfl
    have R := rows_of_fits F wq wk wv
    have A := attend_ev F R he
    refine Ev.bind A.1 (Ev.bind hd (Ev.bind awake07_ev (ev_pos rfl ?_)))
    refine Ev.step (fun k => tillerlaw07_HeadsAttend.j0.eq_2 ..) (ev_neg (by simp) (ev_pos rfl ?_))
    refine Ev.bind (ref07_attend_ev F R) (Ev.bind (same_ev _ _ rfl ?_) (Ev.now _))
    rw [sAttend_length]
    omega
  · have A : Ev (fun k => heads_Attend.f k q ks vs n) ([], e) := by
      unfold heads_Attend.f
      exact Ev.bind he (ev_neg c (Ev.now _))
    refine Ev.bind A (Ev.bind hd (Ev.bind awake07_ev (ev_pos rfl ?_)))
    exact Ev.step (fun k => tillerlaw07_HeadsAttend.j0.eq_2 ..) (ev_neg (by simp) (ev_neg c (ev_pos rfl (Ev.now _))))
end Go.Proofs.Ytepbebelbcbciaa.Pure
