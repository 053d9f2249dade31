/- The statement SoftNorms without Go and memory: the program brings any row to a like size by just the document's steps. No condition but that the rows are ones of a machine. -/
import Derived.Test.YtiooeclnjhncmaaQx1
import Derived.Test.YtiooeclnjhncmaaQx10
import Derived.Test.YtiooeclnjhncmaaQx2
import Derived.Test.YtiooeclnjhncmaaQx8
import Derived.Test.YtiooeclnjhncmaaAwake05
import Derived.Test.YtiooeclnjhncmaaEv
import Derived.Test.YtiooeclnjhncmaaSoft
import Derived.Test.YtiooeclnjhncmaaSoft2
namespace Go.Proofs.Ytiooeclnjhncmaa.Pure
open Go.RowKit Go.Proofs.Ytiooeclnjhncmaa.Q Go.Proofs.YtiooeclnjhncmaaW.PrintWords Go.Proofs.YtiooeclnjhncmaaW.PrintLast
set_option linter.unusedVariables false
set_option linter.unusedSimpArgs false

theorem SoftNorms : tillerlaw05_SoftNorms.Pure := by
  intro l0 l1 h1 h2 h3 g1 g2 g3
  refine Ev.rounds (?_ : Ev (fun k => tillerlaw05_SoftNorms.f k l0 l1) true)
  unfold tillerlaw05_SoftNorms.f
  refine ev_some (few_eq l0 5000 h2) (ev_some (few_eq l1 5000 g2) ?_)
  have hw : ∀ x ∈ l0.take 5000, I32 x := fun x hx => i32_of_wf (h3 x (List.mem_of_mem_take hx))
  have hwg : ∀ x ∈ l1.take 5000, I32 x := fun x hx => i32_of_wf (g3 x (List.mem_of_mem_take hx))
  have hl5 : (l0.take 5000).length ≤ 5000 := by rw [List.length_take]; omega
  generalize l0.take 5000 = l at *
  generalize l1.take 5000 = g at *
  have bad : ∀ (e : Int), e ≠ 0 → (∀ k, soft_Mean.f k l = some (0, e)) → tillerref05_Size.f l = some e → Ev (fun k => (soft_Mean.f k l).bind fun bt326 => ((soft_Norm.f k l g).bind fun bt328 => ((tillerref05_Size.f l).bind fun t332 => ((tillerlaw05_awake.f k).bind fun t333 => (if t333 = true then (tillerlaw05_SoftNorms.j0 k l g bt326.1 bt328.1 bt328.2 t332 (bt326.2 != t332)) else (tillerlaw05_SoftNorms.j0 k l g bt326.1 bt328.1 bt328.2 t332 true)))))) true := by
    intro e he hm hs
    have hn : ∀ k, soft_Norm.f k l g = some ([], e) := fun k => by
      unfold soft_Norm.f
      rw [hm k]
      simp only [Option.bind_some]
      rw [if_neg he]
    refine Ev.bind (ev_of_eq hm) (Ev.bind (ev_of_eq hn) (ev_some hs (Ev.bind awake05_ev (ev_pos rfl ?_))))
    refine Ev.step (fun k => tillerlaw05_SoftNorms.j0.eq_2 ..) (ev_neg (by simp) (ev_neg he (ev_pos rfl (ev_pos rfl (Ev.now _)))))
  by_cases c0 : l = []
  · subst c0
    exact bad 8 (by decide) (fun k => by unfold soft_Mean.f; exact if_pos rfl) (by unfold tillerref05_Size.f; exact if_pos (by decide))
  · have hp : 0 < l.length := List.length_pos_iff.2 c0
    by_cases c1 : 4096 < l.length
    · exact bad 2 (by decide) (fun k => by unfold soft_Mean.f; rw [if_neg (by omega), if_pos (by omega)]) (by unfold tillerref05_Size.f; rw [if_neg (by omega), if_pos (by omega)])
    · have hs : tillerref05_Size.f l = some 0 := by unfold tillerref05_Size.f; rw [if_neg (by omega), if_neg (by omega)]
      have hm := mean_ev c0 (by omega) hw
      by_cases c2 : l.length = g.length
      · refine Ev.bind hm (Ev.bind (norm_ev c0 (by omega) c2 hw hwg) (ev_some hs (Ev.bind awake05_ev (ev_pos rfl ?_))))
        refine Ev.step (fun k => tillerlaw05_SoftNorms.j0.eq_2 ..) (ev_neg (by simp) (ev_pos rfl ?_))
        refine Ev.bind (ref05_mean_ev c0 (by omega) hw) (ev_pos rfl (ev_pos (by omega) (ev_pos rfl ?_)))
        exact Ev.bind (ref05_norm_ev c0 (by omega) c2 hw hwg) (Ev.bind (same_ev _ _ rfl (by rw [sNorm_length _ _ c2]; omega)) (Ev.now _))
      · have hn : Ev (fun k => soft_Norm.f k l g) ([], 6) := by
          unfold soft_Norm.f
          exact Ev.bind hm (ev_pos rfl (ev_neg (by omega) (Ev.now _)))
        refine Ev.bind hm (Ev.bind hn (ev_some hs (Ev.bind awake05_ev (ev_pos rfl ?_))))
        refine Ev.step (fun k => tillerlaw05_SoftNorms.j0.eq_2 ..) (ev_neg (by simp) (ev_pos rfl ?_))
        exact Ev.bind (ref05_mean_ev c0 (by omega) hw) (ev_pos rfl (ev_neg (by omega) (ev_pos rfl (Ev.now _))))
end Go.Proofs.Ytiooeclnjhncmaa.Pure
