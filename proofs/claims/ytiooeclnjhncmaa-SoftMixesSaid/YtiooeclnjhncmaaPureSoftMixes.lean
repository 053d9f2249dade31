/- The statement SoftMixes without Go and memory: rows are mixed by weights as the document says, or the same error is told. No condition but that the rows are ones of a machine. -/
import Derived.Test.YtiooeclnjhncmaaPgSoftMixes
import Derived.Test.YtiooeclnjhncmaaQx0
import Derived.Test.YtiooeclnjhncmaaQx2
import Derived.Test.YtiooeclnjhncmaaQx6
import Derived.Test.YtiooeclnjhncmaaQx7
import Derived.Test.YtiooeclnjhncmaaAwake05
import Derived.Test.YtiooeclnjhncmaaEv
import Derived.Test.YtiooeclnjhncmaaSoft
import Derived.Test.YtiooeclnjhncmaaSoft3
namespace Go.Proofs.Ytiooeclnjhncmaa.Pure
open Go.RowKit Go.Proofs.Ytiooeclnjhncmaa.Q Go.Proofs.YtiooeclnjhncmaaW.PrintWords Go.Proofs.YtiooeclnjhncmaaW.PrintLast
set_option linter.unusedVariables false
set_option linter.unusedSimpArgs false

theorem SoftMixes : tillerlaw05_SoftMixes.PureG := by
  intro l0 l1 h0 h1
  refine Ev.rounds (?_ : Ev (fun k => tillerlaw05_SoftMixes.f k l0 l1) true)
  unfold tillerlaw05_SoftMixes.f
  have hR : Rows32 l1 := fun r hr => ⟨(h1.2 r hr).1, fun x hx => i32_of_wf ((h1.2 r hr).2 x hx)⟩
  refine ev_some (few_eq l0 5000 h0.1) (Ev.bind (rows_ev l1 60 hR (by decide)) ?_)
  have hw : ∀ x ∈ l0.take 5000, I32 x := fun x hx => i32_of_wf (h0.2 x (List.mem_of_mem_take hx))
  have hl5 : (l0.take 5000).length ≤ 5000 := by rw [List.length_take]; omega
  have hrow : ∀ r ∈ few40 l1 60, r.length ≤ 40 ∧ ∀ x ∈ r, I32 x := fun r hr => few40_row hR hr
  have hl6 : (few40 l1 60).length ≤ 60 := by rw [few40_length]; omega
  generalize l0.take 5000 = w at *
  generalize few40 l1 60 = rows at *
  have fin : ∀ (e : Int), e ≠ 0 → Ev (fun k => soft_Mix.f k w rows) ([], e) → Ev (fun k => tillerref05_Mixed.f k w rows) e →
      Ev (fun k => (soft_Mix.f k w rows).bind fun bt274 => ((tillerref05_Mixed.f k w rows).bind fun t278 => ((tillerlaw05_awake.f k).bind fun t279 => (if t279 = true then (tillerlaw05_SoftMixes.j0 k w rows bt274.1 t278 (bt274.2 != t278)) else (tillerlaw05_SoftMixes.j0 k w rows bt274.1 t278 true))))) true := by
    intro e he hm hd
    refine Ev.bind hm (Ev.bind hd (Ev.bind awake05_ev (ev_pos rfl ?_)))
    exact Ev.step (fun k => tillerlaw05_SoftMixes.j0.eq_2 ..) (ev_neg (by simp) (ev_neg he (ev_pos rfl (Ev.now _))))
  by_cases c0 : w = []
  · subst c0
    refine fin 8 (by decide) ?_ ?_
    · unfold soft_Mix.f
      exact ev_pos rfl (Ev.step (fun k => soft_Mix.j0.eq_2 ..) (ev_pos rfl (Ev.now _)))
    · unfold tillerref05_Mixed.f
      exact ev_pos rfl (Ev.step (fun k => tillerref05_Mixed.j0.eq_2 ..) (ev_pos rfl (Ev.now _)))
  have hp : 0 < w.length := List.length_pos_iff.2 c0
  by_cases c1 : rows = []
  · subst c1
    refine fin 8 (by decide) ?_ ?_
    · unfold soft_Mix.f
      exact ev_neg (by omega) (Ev.step (fun k => soft_Mix.j0.eq_2 ..) (ev_pos rfl (Ev.now _)))
    · unfold tillerref05_Mixed.f
      exact ev_neg (by omega) (Ev.step (fun k => tillerref05_Mixed.j0.eq_2 ..) (ev_pos rfl (Ev.now _)))
  have hp1 : 0 < rows.length := List.length_pos_iff.2 c1
  have nz : ¬ (((rows.length : Int) == 0) = true) := fun h => by have := eq_of_beq h; omega
  by_cases c2 : 4096 < w.length
  · refine fin 2 (by decide) ?_ ?_
    · unfold soft_Mix.f
      exact ev_neg (by omega) (Ev.step (fun k => soft_Mix.j0.eq_2 ..) (ev_neg nz (ev_pos (by omega) (Ev.now _))))
    · unfold tillerref05_Mixed.f
      exact ev_neg (by omega) (Ev.step (fun k => tillerref05_Mixed.j0.eq_2 ..) (ev_neg nz (ev_pos (by omega) (Ev.now _))))
  by_cases c3 : w.length = rows.length
  · obtain ⟨n, hn⟩ : ∃ n, n = rows[0].length := ⟨_, rfl⟩
    have hn40 : n ≤ 40 := by rw [hn]; exact (hrow _ (List.getElem_mem _)).1
    have hr0 : (rd_L2 rows 0).length = n := by
      have e := rdL_nat rows 0 (by omega)
      rw [show (((0 : Nat) : Int)) = 0 from rfl] at e
      rw [e, hn]
    -- the document's look at the rows, up to row j
    have mixed : ∀ (j : Nat) (r : Int), j ≤ rows.length → (∀ i (hi : i < rows.length), i < j → rows[i].length = n) → Ev (fun k => tillerref05_Mixed.l0 k rows rows (rows.length : Int) (j : Int)) r → Ev (fun k => tillerref05_Mixed.f k w rows) r := by
      intro j r hj hall hend
      unfold tillerref05_Mixed.f
      refine ev_neg (by omega) (Ev.step (fun k => tillerref05_Mixed.j0.eq_2 ..) (ev_neg nz (ev_neg (by omega) (ev_pos (by omega) ?_))))
      exact ev_loop j (fun k i (_ : Unit) => tillerref05_Mixed.l0 k rows rows (rows.length : Int) (i : Int)) (fun _ => ()) r
        (fun i hi ih => by
          have hi2 : i < rows.length := by omega
          refine Ev.step (fun k => tillerref05_Mixed.l0.eq_2 ..) (ev_pos (by omega) (ev_pos (by omega) (ev_pos (by omega) (ev_pos (by omega) ?_))))
          rw [rdL_nat rows i hi2, hr0, hall i hi2 hi, wrap_next hi2 (by omega)]
          exact ev_pos rfl ih) hend 0 (by omega)
    by_cases c4 : ∀ i, i < rows.length → (rd_L2 rows (i : Int)).length = n
    · have hrows : ∀ r ∈ rows, r.length = n ∧ ∀ x ∈ r, I32 x := by
        intro r hr
        refine ⟨?_, (hrow r hr).2⟩
        obtain ⟨i, hi, rfl⟩ := List.mem_iff_getElem.1 hr
        have := c4 i hi
        rwa [rdL_nat rows i hi] at this
      have hm := mix_ev c0 (by omega) c3 (by omega) hrows hw
      have hd := mixed rows.length 0 (Nat.le_refl _) (fun i hi _ => (hrows _ (List.getElem_mem hi)).1) (Ev.step (fun k => tillerref05_Mixed.l0.eq_2 ..) (ev_neg (by omega) (Ev.now _)))
      refine Ev.bind hm (Ev.bind hd (Ev.bind awake05_ev (ev_pos rfl ?_)))
      refine Ev.step (fun k => tillerlaw05_SoftMixes.j0.eq_2 ..) (ev_neg (by simp) (ev_pos rfl ?_))
      exact Ev.bind (ref05_mix_ev c0 (by omega) c3 (by omega) hrows hw) (Ev.bind (same_ev _ _ rfl (by rw [sMix_length]; omega)) (Ev.now _))
    · obtain ⟨j, hj, hb, ha⟩ := first_bad _ _ c4
      have hall : ∀ i (hi : i < rows.length), i < j → rows[i].length = n := fun i hi hij => by
        have := ha i hij
        rwa [rdL_nat rows i hi] at this
      have hbad : ¬ (rows[j].length = n) := by
        rw [rdL_nat rows j hj] at hb
        exact hb
      refine fin 6 (by decide) ?_ ?_
      · unfold soft_Mix.f
        refine ev_neg (by omega) (Ev.step (fun k => soft_Mix.j0.eq_2 ..) (ev_neg nz (ev_neg (by omega) (ev_pos (by omega) (ev_pos (by omega) ?_)))))
        rw [hr0]
        exact ev_loop j (fun k i (_ : Unit) => soft_Mix.l0 k w rows (n : Int) rows (rows.length : Int) (i : Int)) (fun _ => ()) ([], 6)
          (fun i hi ih => by
            have hi2 : i < rows.length := by omega
            refine Ev.step (fun k => soft_Mix.l0.eq_2 ..) (ev_pos (by omega) (ev_pos (by omega) (ev_pos (by omega) ?_)))
            rw [rdL_nat rows i hi2, hall i hi2 hi, wrap_next hi2 (by omega)]
            exact ev_pos rfl ih)
          (by
            refine Ev.step (fun k => soft_Mix.l0.eq_2 ..) (ev_pos (by omega) (ev_pos (by omega) (ev_pos (by omega) ?_)))
            rw [rdL_nat rows j hj]
            exact ev_neg (by omega) (Ev.now _)) 0 (by omega)
      · refine mixed j 6 (by omega) hall ?_
        refine Ev.step (fun k => tillerref05_Mixed.l0.eq_2 ..) (ev_pos (by omega) (ev_pos (by omega) (ev_pos (by omega) (ev_pos (by omega) ?_))))
        rw [rdL_nat rows j hj, hr0]
        exact ev_neg (by omega) (Ev.now _)
  · refine fin 6 (by decide) ?_ ?_
    · unfold soft_Mix.f
      exact ev_neg (by omega) (Ev.step (fun k => soft_Mix.j0.eq_2 ..) (ev_neg nz (ev_neg (by omega) (ev_neg (by omega) (Ev.now _)))))
    · unfold tillerref05_Mixed.f
      exact ev_neg (by omega) (Ev.step (fun k => tillerref05_Mixed.j0.eq_2 ..) (ev_neg nz (ev_neg (by omega) (ev_neg (by omega) (Ev.now _)))))
end Go.Proofs.Ytiooeclnjhncmaa.Pure
