/- The statement SoftAlone without Go and memory: one number alone weighs one, equal ones weigh alike, a weight of one picks its row, nought stays nought. No condition but that the numbers are ones of a machine. -/
import Derived.Test.YtiooeclnjhncmaaQx5
import Derived.Test.YtiooeclnjhncmaaAlone
import Derived.Test.YtiooeclnjhncmaaAwake05
import Derived.Test.YtiooeclnjhncmaaEv
import Derived.Test.YtiooeclnjhncmaaNum
import Derived.Test.YtiooeclnjhncmaaSoft
import Derived.Test.YtiooeclnjhncmaaSoft2
import Derived.Test.YtiooeclnjhncmaaSoft3
namespace Go.Proofs.Ytiooeclnjhncmaa.Pure
open Go.RowKit Go.Proofs.Ytiooeclnjhncmaa.Q Go.Proofs.YtiooeclnjhncmaaW.PrintWords Go.Proofs.YtiooeclnjhncmaaW.PrintLast
set_option linter.unusedVariables false
set_option linter.unusedSimpArgs false

theorem SoftAlone : tillerlaw05_SoftAlone.Pure := by
  intro a0 a1 l2 h0 h1 _ h3 h4
  refine Ev.rounds (?_ : Ev (fun k => tillerlaw05_SoftAlone.f k a0 a1 l2) true)
  unfold tillerlaw05_SoftAlone.f
  refine ev_some (few_v_eq l2 40 h3) ?_
  have wx := i32_of_wf h0
  have ha1 := i64_of_wf h1
  have hw : ∀ x ∈ l2.take 40, I32 x := fun x hx => i32_of_wf (h4 x (List.mem_of_mem_take hx))
  have hl : (l2.take 40).length ≤ 40 := by rw [List.length_take]; omega
  generalize l2.take 40 = l at *
  have w1 : sW [a0] = [65536] := by have := sW_alike 1 a0 (by decide); simpa using this
  refine Ev.bind (weights_ev (l := [a0]) (by simp) (by simp) (fun x hx => by rw [List.mem_singleton.1 hx]; exact wx)) ?_
  have m1 := mix_ev (w := [65536]) (rows := [l]) (n := l.length) (by simp) (by simp) (by simp) (by omega) (fun r hr => by rw [List.mem_singleton.1 hr]; exact ⟨rfl, hw⟩) (fun x hx => by rw [List.mem_singleton.1 hx]; exact ⟨by decide, by decide⟩)
  refine Ev.bind m1 ?_
  have hml := sMix_length [65536] [l] l.length
  have hmr : ∀ i : Nat, i < l.length → rd (sMix [65536] [l] l.length) i = mx (rd l i) (-2147483647) := by
    intro i hi
    rw [rd_nat _ i (by omega)]
    have e : (sMix [65536] [l] l.length)[i]'(by omega) = sDot [65536] [rd l i] := by
      simp only [sMix, List.getElem_map, List.getElem_range]
      rfl
    rw [e, sDot_one (i32_rd hw _), sSat_floor (i32_rd hw _)]
  generalize sMix [65536] [l] l.length = m at *
  rw [w1]
  refine ev_pos rfl (ev_pos rfl (ev_pos (by decide) (ev_pos rfl (ev_pos rfl ?_))))
  have bm : ((m.length : Int) != (l.length : Int)) = false := by rw [hml]; simp
  rw [bm]
  refine Ev.step (fun k => tillerlaw05_SoftAlone.j0.eq_2 ..) (ev_neg (by decide) ?_)
  -- behind the row
  have j2 : ∀ b : Bool, (b = false → 1 ≤ a1 ∧ a1 ≤ 40) → Ev (fun k => tillerlaw05_SoftAlone.j2 k a0 a1 b) true := by
    intro b hb
    refine Ev.step (fun k => tillerlaw05_SoftAlone.j2.eq_2 ..) (ev_if (fun _ => Ev.bind awake05_ev (Ev.now _)) (fun hf => ?_))
    obtain ⟨x0, x1⟩ := hb (by simpa using hf)
    obtain ⟨n, rfl⟩ := Int.eq_ofNat_of_zero_le (show 0 ≤ a1 by omega)
    rw [Int.toNat_natCast]
    refine ev_pos (by omega) (ev_pos (by omega) ?_)
    have hn : 0 < n := by omega
    have ne : ∀ y : Int, List.replicate n y ≠ [] := fun y => List.length_pos_iff.1 (by rw [List.length_replicate]; exact hn)
    have hlr : ∀ y : Int, (List.replicate n y).length = n := fun y => List.length_replicate
    have hz : ∀ i : Nat, i < n → rd (sNorm (List.replicate n 0) (List.replicate n a0)) i = 0 := by
      intro i hi
      rw [rd_nat _ i (by rw [sNorm_length _ _ (by rw [hlr, hlr]), hlr]; exact hi)]
      unfold sNorm
      rw [List.getElem_zipWith, List.getElem_replicate]
      have e1 : ∀ y : Int, sMul 0 y = 0 := by
        intro y
        unfold sMul
        rw [Int.zero_mul]
        decide
      rw [e1, e1]
    have hnl := sNorm_length (List.replicate n 0) (List.replicate n a0) (by rw [hlr, hlr])
    rw [hlr] at hnl
    exact ev_loop n (fun k i (s : List Int) => tillerlaw05_SoftAlone.l1 k a0 (n : Int) s (List.replicate n 0) s (i : Int)) (fun i => List.replicate i a0) true
      (fun i hi ih => by
        have hli : (List.replicate i a0).length = i := List.length_replicate
        simp only [List.replicate_succ'] at ih
        refine Ev.step (fun k => tillerlaw05_SoftAlone.l1.eq_2 ..) (ev_pos (by omega) (ev_pos (by omega) (ev_pos (by omega) ?_)))
        rw [wrap_next hi (by omega)]
        exact ih)
      (by
        refine Ev.step (fun k => tillerlaw05_SoftAlone.l1.eq_2 ..) (ev_neg (by omega) ?_)
        refine Ev.bind (weights_ev (ne a0) (by rw [hlr]; omega) (fun x hx => by rw [List.eq_of_mem_replicate hx]; exact wx)) ?_
        refine Ev.bind (norm_ev (ne 0) (by rw [hlr]; omega) (by rw [hlr, hlr]) (fun x hx => by rw [List.eq_of_mem_replicate hx]; exact ⟨by decide, by decide⟩) (fun x hx => by rw [List.eq_of_mem_replicate hx]; exact wx)) ?_
        rw [sW_alike n a0 hn]
        generalize sNorm (List.replicate n 0) (List.replicate n a0) = z at *
        refine ev_pos rfl (ev_pos rfl (ev_pos (by simp) ?_))
        have bz : ((z.length : Int) != (n : Int)) = false := by rw [hnl]; simp
        rw [bz]
        refine Ev.step (fun k => tillerlaw05_SoftAlone.j4.eq_2 ..) (ev_neg (by decide) ?_)
        have hq0 : 0 ≤ 65536 / (n : Int) := Int.ediv_nonneg (by decide) (by omega)
        have hq1 : 65536 / (n : Int) ≤ 65536 := Int.ediv_le_self _ (by decide)
        have hlw := hlr (65536 / (n : Int))
        have hrw : ∀ i : Nat, i < n → rd (List.replicate n (65536 / (n : Int))) i = 65536 / (n : Int) := by
          intro i hi
          rw [rd_nat _ i (by omega), List.getElem_replicate]
        generalize List.replicate n (65536 / (n : Int)) = u at *
        exact ev_loop n (fun k i (_ : Unit) => tillerlaw05_SoftAlone.l2 k (n : Int) u z (i : Int)) (fun _ => ()) true
          (fun i hi ih => by
            refine Ev.step (fun k => tillerlaw05_SoftAlone.l2.eq_2 ..) (ev_pos (by omega) (ev_pos (by omega) (ev_pos (by omega) (ev_neg (by omega) (ev_pos ?_ (ev_pos (by omega) (ev_pos (hz i hi) ?_)))))))
            · rw [hrw i hi, tdiv_pos (by decide), wrap64_id (by omega) (by omega), wrap32_id (by omega) (by omega)]
            · rw [wrap_next hi (by omega)]
              exact ih)
          (Ev.step (fun k => tillerlaw05_SoftAlone.l2.eq_2 ..) (ev_neg (by omega) (Ev.bind awake05_ev (Ev.now _)))) 0 (by omega)) 0 (by omega)
  exact ev_loop l.length (fun k i (_ : Unit) => tillerlaw05_SoftAlone.l0 k a0 a1 m l (l.length : Int) (i : Int)) (fun _ => ()) true
    (fun i hi ih => by
      refine Ev.step (fun k => tillerlaw05_SoftAlone.l0.eq_2 ..) (ev_pos (by omega) (ev_pos (by omega) (ev_pos (by omega) (ev_pos (by omega) (ev_pos (hmr i hi) ?_)))))
      rw [wrap_next hi (by omega)]
      exact ih)
    (Ev.step (fun k => tillerlaw05_SoftAlone.l0.eq_2 ..) (ev_neg (by omega) (ev_if (fun _ => j2 true (fun h => by cases h)) (fun c => j2 _ (fun h => by
      have := of_decide_eq_false h
      omega))))) 0 (by omega)
end Go.Proofs.Ytiooeclnjhncmaa.Pure
