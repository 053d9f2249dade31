/- Attention: what the program's and the document's parts of it come to. Conditions: the bounds that each lemma names. -/
import Derived.Test.YtepbebelbcbciaaQx0
import Derived.Test.YtepbebelbcbciaaQx1
import Derived.Test.YtepbebelbcbciaaQx2
import Derived.Test.YtepbebelbcbciaaQx3
import Derived.Test.YtepbebelbcbciaaEv
import Derived.Test.YtepbebelbcbciaaNum
import Derived.Test.YtepbebelbcbciaaRoot
import Derived.Test.YtepbebelbcbciaaSoft
import Derived.Test.YtepbebelbcbciaaSoft2
import Derived.Test.YtepbebelbcbciaaSoft3
namespace Go.Proofs.Ytepbebelbcbciaa.Q
open Go.RowKit Go.Proofs.YtepbebelbcbciaaW.PrintWords Go.Proofs.YtepbebelbcbciaaW.PrintLast
set_option linter.unusedVariables false
set_option linter.unusedSimpArgs false

/-! rows that go together -/
structure Fits (q : List Int) (ks vs : List (List Int)) (n : Int) : Prop where
  n0 : 1 ≤ n
  n1 : n ≤ 4
  q0 : 0 < q.length
  q1 : q.length ≤ 32
  k0 : 0 < ks.length
  k1 : ks.length ≤ 128
  dv : (q.length : Int) % n = 0
  kv : ks.length = vs.length
  rk : ∀ i : Nat, i < ks.length → (rd_L1 ks i).length = q.length
  rv : ∀ i : Nat, i < ks.length → (rd_L1 vs i).length = q.length
theorem fit_loop_good (q : List Int) (ks vs : List (List Int)) (h : ks.length = vs.length) (hl : ks.length ≤ 1000)
    (g : ∀ i : Nat, i < ks.length → (rd_L1 ks i).length = q.length ∧ (rd_L1 vs i).length = q.length) :
    Ev (fun k => heads_fit.l0 k q vs ks (ks.length : Int) 0) 0 :=
  ev_loop ks.length (fun k i (_ : Unit) => heads_fit.l0 k q vs ks (ks.length : Int) (i : Int)) (fun _ => ()) 0
    (fun i hi ih => by
      have gi := g i hi
      refine Ev.step (fun k => heads_fit.l0.eq_2 ..) (ev_pos (by omega) (ev_pos (by omega) (ev_pos (by omega) (ev_pos (by omega) (ev_pos (by omega) (ev_pos (by omega) ?_))))))
      rw [wrap_next hi (by omega)]
      exact ih)
    (Ev.step (fun k => heads_fit.l0.eq_2 ..) (ev_neg (by omega) (Ev.now _))) 0 (by omega)
theorem fit_loop_bad (q : List Int) (ks vs : List (List Int)) (h : ks.length = vs.length) (hl : ks.length ≤ 1000) (j : Nat) (hj : j < ks.length)
    (b : ¬ ((rd_L1 ks j).length = q.length ∧ (rd_L1 vs j).length = q.length))
    (g : ∀ i : Nat, i < j → (rd_L1 ks i).length = q.length ∧ (rd_L1 vs i).length = q.length) :
    Ev (fun k => heads_fit.l0 k q vs ks (ks.length : Int) 0) 6 :=
  ev_loop j (fun k i (_ : Unit) => heads_fit.l0 k q vs ks (ks.length : Int) (i : Int)) (fun _ => ()) 6
    (fun i hi ih => by
      have gi := g i hi
      refine Ev.step (fun k => heads_fit.l0.eq_2 ..) (ev_pos (by omega) (ev_pos (by omega) (ev_pos (by omega) (ev_pos (by omega) (ev_pos (by omega) (ev_pos (by omega) ?_))))))
      rw [wrap_next hi (by omega)]
      exact ih)
    (by
      refine Ev.step (fun k => heads_fit.l0.eq_2 ..) (ev_pos (by omega) (ev_pos (by omega) (ev_pos (by omega) (ev_if (fun c => ev_pos (by omega) (ev_neg (by omega) (Ev.now _))) (fun _ => Ev.now _))))) ) 0 (by omega)
theorem bool_pos {p : Bool} {R : Type} {a b : Nat → Option R} {r : R} (h : p = true) (h1 : Ev a r) : Ev (fun k => if p = true then a k else b k) r := ev_pos h h1
/-- What a look at the rows tells. -/
theorem fit_ev (q : List Int) (ks vs : List (List Int)) (n : Int) (hq : q.length ≤ 1000000) (hk : ks.length ≤ 1000000) (hv : vs.length ≤ 1000000) :
    ∃ e : Int, Ev (fun k => heads_fit.f k q ks vs n) e ∧ (e = 0 ↔ Fits q ks vs n) := by
  unfold heads_fit.f
  by_cases c1 : n < 1 ∨ n > 4
  · refine ⟨1, ?_, ⟨fun h => absurd h (by decide), fun h => by have := h.n0; have := h.n1; omega⟩⟩
    refine ev_if (fun _ => ?_) (fun c => ?_)
    · exact Ev.step (fun k => heads_fit.j0.eq_2 ..) (ev_pos rfl (Ev.now _))
    · exact Ev.step (fun k => heads_fit.j0.eq_2 ..) (ev_pos (decide_eq_true (by omega)) (Ev.now _))
  have d1 : decide (n > 4) = false := decide_eq_false (by omega)
  have n0 : ¬ n < 1 := by omega
  by_cases c2 : q.length = 0 ∨ ks.length = 0
  · refine ⟨8, ?_, ⟨fun h => absurd h (by decide), fun h => by have := h.q0; have := h.k0; omega⟩⟩
    refine ev_neg n0 (Ev.step (fun k => heads_fit.j0.eq_2 ..) (ev_neg (by rw [d1]; decide) (ev_if (fun _ => ?_) (fun c => ?_))))
    · exact Ev.step (fun k => heads_fit.j1.eq_2 ..) (ev_pos rfl (Ev.now _))
    · exact Ev.step (fun k => heads_fit.j1.eq_2 ..) (ev_pos (beq_iff_eq.2 (by omega)) (Ev.now _))
  have b2 : ((ks.length : Int) == 0) = false := beq_eq_false_iff_ne.2 (by omega)
  have q0 : ¬ (q.length : Int) = 0 := by omega
  by_cases c3 : q.length > 32 ∨ ks.length > 128
  · refine ⟨2, ?_, ⟨fun h => absurd h (by decide), fun h => by have := h.q1; have := h.k1; omega⟩⟩
    refine ev_neg n0 (Ev.step (fun k => heads_fit.j0.eq_2 ..) (ev_neg (by rw [d1]; decide) (ev_neg q0 (Ev.step (fun k => heads_fit.j1.eq_2 ..) (ev_neg (by rw [b2]; decide) (ev_if (fun _ => ?_) (fun c => ?_)))))))
    · exact Ev.step (fun k => heads_fit.j2.eq_2 ..) (ev_pos rfl (Ev.now _))
    · exact Ev.step (fun k => heads_fit.j2.eq_2 ..) (ev_pos (decide_eq_true (by omega)) (Ev.now _))
  have d3 : decide ((ks.length : Int) > 128) = false := decide_eq_false (by omega)
  have q32 : ¬ (q.length : Int) > 32 := by omega
  have hm : 0 ≤ (q.length : Int) % n := Int.emod_nonneg _ (by omega)
  by_cases c4 : (q.length : Int) % n ≠ 0 ∨ ks.length ≠ vs.length
  · refine ⟨6, ?_, ⟨fun h => absurd h (by decide), fun h => by have := h.dv; have := h.kv; omega⟩⟩
    refine ev_neg n0 (Ev.step (fun k => heads_fit.j0.eq_2 ..) (ev_neg (by rw [d1]; decide) (ev_neg q0 (Ev.step (fun k => heads_fit.j1.eq_2 ..) (ev_neg (by rw [b2]; decide) (ev_neg q32 (Ev.step (fun k => heads_fit.j2.eq_2 ..) (ev_neg (by rw [d3]; decide) (ev_neg (by omega) (ev_if (fun c => ?_) (fun c => ?_)))))))))))
    · exact Ev.step (fun k => heads_fit.j3.eq_2 ..) (ev_pos (bne_iff_ne.2 (by omega)) (Ev.now _))
    · exact Ev.step (fun k => heads_fit.j3.eq_2 ..) (ev_pos rfl (Ev.now _))
  have b4 : ((ks.length : Int) != (vs.length : Int)) = false := by
    rw [show ks.length = vs.length by omega]
    simp
  have start : ∀ e : Int, Ev (fun k => heads_fit.l0 k q vs ks (ks.length : Int) 0) e →
      Ev (fun k => if n < 1 then heads_fit.j0 k q ks vs n true else heads_fit.j0 k q ks vs n (decide (n > 4))) e := fun e h1 =>
    ev_neg n0 (Ev.step (fun k => heads_fit.j0.eq_2 ..) (ev_neg (by rw [d1]; decide) (ev_neg q0 (Ev.step (fun k => heads_fit.j1.eq_2 ..) (ev_neg (by rw [b2]; decide) (ev_neg q32 (Ev.step (fun k => heads_fit.j2.eq_2 ..) (ev_neg (by rw [d3]; decide) (ev_neg (by omega) (ev_pos (by omega) (Ev.step (fun k => heads_fit.j3.eq_2 ..) (ev_neg (by rw [b4]; decide) h1))))))))))))
  by_cases c5 : ∀ i : Nat, i < ks.length → (rd_L1 ks i).length = q.length ∧ (rd_L1 vs i).length = q.length
  · exact ⟨0, start 0 (fit_loop_good q ks vs (by omega) (by omega) c5), ⟨fun _ => ⟨by omega, by omega, by omega, by omega, by omega, by omega, by omega, by omega, fun i hi => (c5 i hi).1, fun i hi => (c5 i hi).2⟩, fun _ => rfl⟩⟩
  · obtain ⟨j, hj, hb, hg⟩ := first_bad _ _ c5
    exact ⟨6, start 6 (fit_loop_bad q ks vs (by omega) (by omega) j hj hb hg), ⟨fun h => absurd h (by decide), fun h => absurd ⟨h.rk j hj, h.rv j hj⟩ hb⟩⟩

/-! scores -/
theorem Dot_ev {a b : List Int} (h : a.length = b.length) (hl : a.length ≤ 4096) (ha : ∀ x ∈ a, I32 x) (hb : ∀ x ∈ b, I32 x) : Ev (fun k => vec_Dot.f k a b) (sDot a b, 0) := by
  unfold vec_Dot.f
  have hlen := sProd_length a b h
  have d : decide ((b.length : Int) > 4096) = false := decide_eq_false (by omega)
  have hf : Ev (fun k => vec_fit.f k a b) 0 := by
    unfold vec_fit.f
    exact ev_neg (by omega) (Ev.step (fun k => vec_fit.j0.eq_2 ..) (ev_neg (by rw [d]; decide) (ev_pos (by omega) (Ev.now _))))
  refine Ev.bind hf (ev_pos rfl ?_)
  exact ev_loop a.length (fun k i (s : Int) => vec_Dot.l0 k b s a (a.length : Int) (i : Int)) (fun i => sSum ((sProd a b).take i)) (sDot a b, 0)
    (fun i hi ih => by
      have hi2 : i < b.length := by omega
      have xa := ha _ (List.getElem_mem hi)
      have xb := hb _ (List.getElem_mem hi2)
      simp only [sSum_next _ i (show i < (sProd a b).length by omega), sProd_get a b i (by omega) hi hi2] at ih
      refine Ev.step (fun k => vec_Dot.l0.eq_2 ..) (ev_pos (by omega) (ev_pos (by omega) (ev_pos (by omega) (ev_pos (by omega) ?_))))
      rw [rd_nat a i hi, rd_nat b i hi2, wrap_mul xa xb, wrap_next hi (by omega)]
      exact Ev.bind (vec_Grow_ev (sSum_big _) (big_mul xa xb)) ih)
    (by
      refine Ev.step (fun k => vec_Dot.l0.eq_2 ..) (ev_neg (by omega) ?_)
      rw [← hlen, take_all]
      exact Ev.bind (fix_Round_ev (sSum_big _)) (ev_some (fix_Sat_eq _) (Ev.now _))) 0 (by omega)
theorem Dot_bad {a b : List Int} (h : a.length ≠ b.length) (hl : a.length ≤ 4096) (hl2 : b.length ≤ 4096) : Ev (fun k => vec_Dot.f k a b) (0, 6) := by
  unfold vec_Dot.f
  have d : decide ((b.length : Int) > 4096) = false := decide_eq_false (by omega)
  have hf : Ev (fun k => vec_fit.f k a b) 6 := by
    unfold vec_fit.f
    exact ev_neg (by omega) (Ev.step (fun k => vec_fit.j0.eq_2 ..) (ev_neg (by rw [d]; decide) (ev_neg (by omega) (Ev.now _))))
  exact Ev.bind hf (ev_neg (by decide) (Ev.now _))
theorem fix_Of_eq {n : Nat} (h : n ≤ 4096) : fix_Of.f (n : Int) = some (sSat ((n : Int) * 65536)) := by
  unfold fix_Of.f
  have e : mx (-65536) (mn (n : Int) 65536) = (n : Int) := by unfold mx mn; (repeat' split) <;> omega
  rw [e, fix_Sat_eq]
  rfl
noncomputable def sScore (q k : List Int) : Int := sMul (sDot q k) (sInv (sSat ((q.length : Int) * 65536)))
theorem i32_sScore (q k : List Int) : I32 (sScore q k) := i32_sSat _
theorem scores_ev {q : List Int} {ks : List (List Int)} (hq : q.length ≤ 4096) (hk : ks.length ≤ 4096) (wq : ∀ x ∈ q, I32 x) (wk : ∀ r ∈ ks, r.length = q.length ∧ ∀ x ∈ r, I32 x) :
    Ev (fun k => heads_Scores.f k q ks) (ks.map (sScore q), 0) := by
  unfold heads_Scores.f
  refine ev_some (fix_Of_eq hq) (Ev.bind (curve_Inverse_ev (i32_sSat _)) ?_)
  exact ev_loop ks.length (fun k i (s : List Int) => heads_Scores.l0 k q (sInv (sSat ((q.length : Int) * 65536))) s ks (ks.length : Int) (i : Int)) (fun i => (ks.take i).map (sScore q)) (ks.map (sScore q), 0)
    (fun i hi ih => by
      have hr := wk _ (List.getElem_mem hi)
      have hlen : ((ks.take i).map (sScore q)).length = i := by rw [List.length_map, List.length_take]; omega
      simp only [map_next _ _ i hi] at ih
      refine Ev.step (fun k => heads_Scores.l0.eq_2 ..) (ev_pos (by omega) (ev_pos (by omega) (ev_pos (by omega) ?_)))
      rw [rdL_nat ks i hi, wrap_next hi (by omega)]
      refine Ev.bind (Dot_ev hr.1.symm hq wq hr.2) (ev_pos rfl (Ev.bind (fix_Mul_ev (i32_sDot _ _) (i32_sInv (i32_sSat _))) (ev_pos (by omega) ih))))
    (by
      rw [take_all]
      exact Ev.step (fun k => heads_Scores.l0.eq_2 ..) (ev_neg (by omega) (Ev.now _))) 0 (by omega)
theorem scores_bad {q : List Int} {ks : List (List Int)} (hq : q.length ≤ 4096) (hk : ks.length ≤ 4096) (wq : ∀ x ∈ q, I32 x) (j : Nat) (hj : j < ks.length) (hlj : ks[j].length ≤ 4096) (hb : ks[j].length ≠ q.length)
    (wk : ∀ i (hi : i < ks.length), i < j → ks[i].length = q.length ∧ ∀ x ∈ ks[i], I32 x) : Ev (fun k => heads_Scores.f k q ks) ([], 6) := by
  unfold heads_Scores.f
  refine ev_some (fix_Of_eq hq) (Ev.bind (curve_Inverse_ev (i32_sSat _)) ?_)
  exact ev_loop j (fun k i (s : List Int) => heads_Scores.l0 k q (sInv (sSat ((q.length : Int) * 65536))) s ks (ks.length : Int) (i : Int)) (fun i => (ks.take i).map (sScore q)) ([], 6)
    (fun i hi ih => by
      have hi2 : i < ks.length := by omega
      have hr := wk i hi2 hi
      have hlen : ((ks.take i).map (sScore q)).length = i := by rw [List.length_map, List.length_take]; omega
      simp only [map_next _ _ i hi2] at ih
      refine Ev.step (fun k => heads_Scores.l0.eq_2 ..) (ev_pos (by omega) (ev_pos (by omega) (ev_pos (by omega) ?_)))
      rw [rdL_nat ks i hi2, wrap_next hi (by omega)]
      refine Ev.bind (Dot_ev hr.1.symm hq wq hr.2) (ev_pos rfl (Ev.bind (fix_Mul_ev (i32_sDot _ _) (i32_sInv (i32_sSat _))) (ev_pos (by omega) ih))))
    (by
      refine Ev.step (fun k => heads_Scores.l0.eq_2 ..) (ev_pos (by omega) (ev_pos (by omega) (ev_pos (by omega) ?_)))
      rw [rdL_nat ks j hj]
      exact Ev.bind (Dot_bad (fun e => hb e.symm) hq hlj) (ev_neg (by decide) (Ev.now _))) 0 (by omega)
end Go.Proofs.Ytepbebelbcbciaa.Q
