/- The statement SoftWeights without Go and memory: the program's weights of any row are the document's. No condition but that the row is one of a machine. -/
import Derived.Test.YtiooeclnjhncmaaQx1
import Derived.Test.YtiooeclnjhncmaaQx3
import Derived.Test.YtiooeclnjhncmaaAwake05
import Derived.Test.YtiooeclnjhncmaaEv
import Derived.Test.YtiooeclnjhncmaaSoft
namespace Go.Proofs.Ytiooeclnjhncmaa.Pure
open Go.RowKit Go.Proofs.Ytiooeclnjhncmaa.Q Go.Proofs.YtiooeclnjhncmaaW.PrintWords Go.Proofs.YtiooeclnjhncmaaW.PrintLast

theorem SoftWeights : tillerlaw05_SoftWeights.Pure := by
  intro l0 h1 h2 h3
  refine Ev.rounds (?_ : Ev (fun k => tillerlaw05_SoftWeights.f k l0) true)
  unfold tillerlaw05_SoftWeights.f
  refine ev_some (few_eq l0 5000 h2) ?_
  have hw : ∀ x ∈ l0.take 5000, I32 x := fun x hx => i32_of_wf (h3 x (List.mem_of_mem_take hx))
  have hl5 : (l0.take 5000).length ≤ 5000 := by rw [List.length_take]; omega
  generalize l0.take 5000 = l at *
  by_cases c0 : l = []
  · subst c0
    have e1 : ∀ k, soft_Weights.f k [] = some ([], 8) := fun k => by unfold soft_Weights.f; exact if_pos rfl
    refine Ev.bind (ev_of_eq e1) (ev_some (show tillerref05_Size.f [] = some 8 by unfold tillerref05_Size.f; exact if_pos (by decide)) (Ev.bind awake05_ev (ev_pos rfl ?_)))
    refine Ev.step (fun k => tillerlaw05_SoftWeights.j0.eq_2 ..) (ev_neg (by decide) (ev_neg (by decide) (ev_pos rfl (Ev.now _))))
  · have hp : 0 < l.length := List.length_pos_iff.2 c0
    by_cases c1 : 4096 < l.length
    · have e1 : ∀ k, soft_Weights.f k l = some ([], 2) := fun k => by unfold soft_Weights.f; rw [if_neg (by omega), if_pos (by omega)]
      refine Ev.bind (ev_of_eq e1) (ev_some (show tillerref05_Size.f l = some 2 by unfold tillerref05_Size.f; rw [if_neg (by omega), if_pos (by omega)]) (Ev.bind awake05_ev (ev_pos rfl ?_)))
      refine Ev.step (fun k => tillerlaw05_SoftWeights.j0.eq_2 ..) (ev_neg (by decide) (ev_neg (by decide) (ev_pos rfl (Ev.now _))))
    · refine Ev.bind (weights_ev c0 (by omega) hw) (ev_some (show tillerref05_Size.f l = some 0 by unfold tillerref05_Size.f; rw [if_neg (by omega), if_neg (by omega)]) (Ev.bind awake05_ev (ev_pos rfl ?_)))
      refine Ev.step (fun k => tillerlaw05_SoftWeights.j0.eq_2 ..) (ev_neg (show ¬ ((0 : Int) != 0) = true by decide) (ev_pos rfl ?_))
      refine Ev.bind (ref05_weights_ev c0 (by omega) hw) (Ev.bind (same_ev _ _ rfl (by rw [sW_length]; omega)) (Ev.now _))
end Go.Proofs.Ytiooeclnjhncmaa.Pure
