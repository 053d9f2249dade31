/- The statement HeadsScores without Go and memory: how well a row goes with keys is told as the document says. No condition but that the rows are ones of a machine. -/
import Derived.Test.YtepbebelbcbciaaPgHeadsScores
import Derived.Test.YtepbebelbcbciaaQx0
import Derived.Test.YtepbebelbcbciaaQx8
import Derived.Test.YtepbebelbcbciaaAwake07
import Derived.Test.YtepbebelbcbciaaEv
import Derived.Test.YtepbebelbcbciaaHeads
import Derived.Test.YtepbebelbcbciaaSoft
import Derived.Test.YtepbebelbcbciaaSoft3
namespace Go.Proofs.Ytepbebelbcbciaa.Pure
open Go.RowKit Go.Proofs.Ytepbebelbcbciaa.Q Go.Proofs.YtepbebelbcbciaaW.PrintWords Go.Proofs.YtepbebelbcbciaaW.PrintLast
set_option linter.unusedVariables false
set_option linter.unusedSimpArgs false

theorem HeadsScores : tillerlaw07_HeadsScores.PureG := by
  intro l0 l1 h0 h1
  refine Ev.rounds (?_ : Ev (fun k => tillerlaw07_HeadsScores.f k l0 l1) true)
  unfold tillerlaw07_HeadsScores.f
  have hR1 : Rows32 l1 := fun r hr => ⟨(h1.2 r hr).1, fun x hx => i32_of_wf ((h1.2 r hr).2 x hx)⟩
  refine ev_some (few_eq l0 40 h0.1) (Ev.bind (rows_ev l1 60 hR1 (by decide)) ?_)
  have wq : ∀ x ∈ l0.take 40, I32 x := fun x hx => i32_of_wf (h0.2 x (List.mem_of_mem_take hx))
  have hlq : (l0.take 40).length ≤ 40 := by rw [List.length_take]; omega
  have wk : ∀ r ∈ few40 l1 60, r.length ≤ 40 ∧ ∀ x ∈ r, I32 x := fun r hr => few40_row hR1 hr
  have hlk : (few40 l1 60).length ≤ 60 := by rw [few40_length]; omega
  generalize l0.take 40 = q at *
  generalize few40 l1 60 = ks at *
  -- the law's own loop, up to key j
  have loop : ∀ (j : Nat) (s : List Int) (e : Int), j ≤ ks.length → (∀ i (hi : i < ks.length), i < j → ks[i].length = q.length) → Ev (fun k => tillerlaw07_HeadsScores.l0 k q s e ((ks.take j).map (sScore q)) ks (ks.length : Int) (j : Int)) true →
      Ev (fun k => tillerlaw07_HeadsScores.l0 k q s e [] ks (ks.length : Int) 0) true := by
    intro j s e hj hall hend
    exact ev_loop j (fun k i (t : List Int) => tillerlaw07_HeadsScores.l0 k q s e t ks (ks.length : Int) (i : Int)) (fun i => (ks.take i).map (sScore q)) true
      (fun i hi ih => by
        have hi2 : i < ks.length := by omega
        have hr := wk _ (List.getElem_mem hi2)
        have he := hall i hi2 hi
        have hlen : ((ks.take i).map (sScore q)).length = i := by rw [List.length_map, List.length_take]; omega
        simp only [map_next _ _ i hi2] at ih
        refine Ev.step (fun k => tillerlaw07_HeadsScores.l0.eq_2 ..) (ev_pos (by omega) (ev_pos (by omega) (ev_pos (by omega) ?_)))
        rw [rdL_nat ks i hi2, wrap_next hi2 (by omega)]
        have sc := ref07_Score_ev (q := q) (r := ks[i]) (a := 0) (n := q.length) (by omega) (by omega) (by omega) (by omega) wq hr.2
        have e1 : (q.take (0 + q.length)).drop 0 = q := by rw [Nat.zero_add, take_all, List.drop_zero]
        have e2 : (ks[i].take (0 + q.length)).drop 0 = ks[i] := by rw [Nat.zero_add, ← he, take_all, List.drop_zero]
        rw [e1, e2] at sc
        exact ev_pos (by omega) (Ev.bind sc (ev_pos (by omega) ih)))
      hend 0 (by omega)
  by_cases c : ∀ i : Nat, i < ks.length → (rd_L1 ks i).length = q.length
  · have hall : ∀ i (hi : i < ks.length), ks[i].length = q.length := fun i hi => by have := c i hi; rwa [rdL_nat ks i hi] at this
    refine Ev.bind (scores_ev (by omega) (by omega) wq (fun r hr => by
      obtain ⟨i, hi, rfl⟩ := List.mem_iff_getElem.1 hr
      exact ⟨hall i hi, (wk _ (List.getElem_mem hi)).2⟩)) ?_
    refine loop ks.length _ _ (by omega) (fun i hi _ => hall i hi) ?_
    refine Ev.step (fun k => tillerlaw07_HeadsScores.l0.eq_2 ..) (ev_neg (by omega) (Ev.bind awake07_ev (ev_pos rfl (ev_pos rfl ?_))))
    rw [take_all]
    refine Ev.bind (same_ev _ _ rfl ?_) (Ev.now _)
    rw [List.length_map]
    omega
  · obtain ⟨j, hj, hb, hg⟩ := first_bad _ _ c
    have hb' : ks[j].length ≠ q.length := fun e => hb (by rw [rdL_nat ks j hj]; exact e)
    have hg' : ∀ i (hi : i < ks.length), i < j → ks[i].length = q.length := fun i hi hij => by have := hg i hij; rwa [rdL_nat ks i hi] at this
    have hlj := (wk _ (List.getElem_mem hj)).1
    refine Ev.bind (scores_bad (by omega) (by omega) wq j hj (by omega) hb' (fun i hi hij => ⟨hg' i hi hij, (wk _ (List.getElem_mem hi)).2⟩)) ?_
    refine loop j _ _ (by omega) hg' ?_
    refine Ev.step (fun k => tillerlaw07_HeadsScores.l0.eq_2 ..) (ev_pos (by omega) (ev_pos (by omega) (ev_pos (by omega) ?_)))
    rw [rdL_nat ks j hj]
    exact ev_neg (by omega) (Ev.bind awake07_ev (ev_pos rfl (ev_pos rfl (Ev.now _))))
end Go.Proofs.Ytepbebelbcbciaa.Pure
