/- The statement HeadsWithin without Go and memory: what comes out of a head lies between the least and the greatest of its values and nought. No condition but that the rows are ones of a machine. -/
import Derived.Test.YtepbebelbcbciaaPgHeadsWithin
import Derived.Test.YtepbebelbcbciaaQx6
import Derived.Test.YtepbebelbcbciaaQx7
import Derived.Test.YtepbebelbcbciaaAwake07
import Derived.Test.YtepbebelbcbciaaEv
import Derived.Test.YtepbebelbcbciaaHeads
import Derived.Test.YtepbebelbcbciaaHeads2
import Derived.Test.YtepbebelbcbciaaSoft
import Derived.Test.YtepbebelbcbciaaSoft2
import Derived.Test.YtepbebelbcbciaaSoft3
import Derived.Test.YtepbebelbcbciaaWeigh
import Derived.Test.YtepbebelbcbciaaWithin
namespace Go.Proofs.Ytepbebelbcbciaa.Pure
open Go.RowKit Go.Proofs.Ytepbebelbcbciaa.Q Go.Proofs.YtepbebelbcbciaaW.PrintWords Go.Proofs.YtepbebelbcbciaaW.PrintLast
set_option linter.unusedVariables false
set_option linter.unusedSimpArgs false

theorem HeadsWithin : tillerlaw07_HeadsWithin.PureG := by
  intro l0 l1 l2 n h0 h1 h2 h3
  refine Ev.rounds (?_ : Ev (fun k => tillerlaw07_HeadsWithin.f k l0 l1 l2 n) true)
  unfold tillerlaw07_HeadsWithin.f
  have hR1 : Rows32 l1 := fun r hr => ⟨(h1.2 r hr).1, fun x hx => i32_of_wf ((h1.2 r hr).2 x hx)⟩
  have hR2 : Rows32 l2 := fun r hr => ⟨(h2.2 r hr).1, fun x hx => i32_of_wf ((h2.2 r hr).2 x hx)⟩
  refine ev_some (few_eq l0 32 h0.1) (Ev.bind (rows_ev l1 60 hR1 (by decide)) (Ev.bind (rows_ev l2 60 hR2 (by decide)) ?_))
  have wq : ∀ x ∈ l0.take 32, I32 x := fun x hx => i32_of_wf (h0.2 x (List.mem_of_mem_take hx))
  have hlq : (l0.take 32).length ≤ 32 := by rw [List.length_take]; omega
  have wk : ∀ r ∈ few40 l1 60, ∀ x ∈ r, I32 x := fun r hr => (few40_row hR1 hr).2
  have wv : ∀ r ∈ few40 l2 60, ∀ x ∈ r, I32 x := fun r hr => (few40_row hR2 hr).2
  have hlk : (few40 l1 60).length ≤ 60 := by rw [few40_length]; omega
  have hlv : (few40 l2 60).length ≤ 60 := by rw [few40_length]; omega
  generalize l0.take 32 = q at *
  generalize few40 l1 60 = ks at *
  generalize few40 l2 60 = vs at *
  obtain ⟨e, he, hfit⟩ := fit_ev q ks vs n (by omega) (by omega) (by omega)
  by_cases c : e = 0
  · subst c
    have F := hfit.1 rfl
    have R := rows_of_fits F wq wk wv
    obtain ⟨A, hs, _⟩ := attend_ev F R he
    refine Ev.bind A (ev_pos rfl ?_)
    have hxl := sAttend_length q ks vs (q.length / n.toNat)
    have hb : ∀ j : Nat, j < q.length → ((sCol vs j).foldl mn 0) ≤ rd (sAttend q ks vs (q.length / n.toNat)) j ∧ rd (sAttend q ks vs (q.length / n.toNat)) j ≤ ((sCol vs j).foldl mx 0) ∧ -2147483648 ≤ (sCol vs j).foldl mn 0 ∧ (sCol vs j).foldl mx 0 ≤ 2147483647 ∧ (sCol vs j).foldl mn 0 ≤ 0 ∧ 0 ≤ (sCol vs j).foldl mx 0 := by
      intro j hj
      have hcw := sCol_i32 vs j (fun r hr => (R.rv r hr).2)
      obtain ⟨a1, a2, a3⟩ := foldl_mn (sCol vs j) 0
      obtain ⟨b1, b2, b3⟩ := foldl_mx (sCol vs j) 0
      have lo : -2147483648 ≤ (sCol vs j).foldl mn 0 := by
        rcases a3 with h | h
        · rw [h]; decide
        · exact (hcw _ h).1
      have hi : (sCol vs j).foldl mx 0 ≤ 2147483647 := by
        rcases b3 with h | h
        · rw [h]; decide
        · exact (hcw _ h).2
      have e : rd (sAttend q ks vs (q.length / n.toNat)) j = sDot (sHw q ks (j - j % (q.length / n.toNat)) (q.length / n.toNat)) (sCol vs j) := by
        rw [rd_nat _ j (by omega)]
        simp only [sAttend, List.getElem_map, List.getElem_range]
        rfl
      rw [e]
      have hne : (ks.map fun r => sScore (sPart (j - j % (q.length / n.toNat)) (q.length / n.toNat) q) (sPart (j - j % (q.length / n.toNat)) (q.length / n.toNat) r)) ≠ [] := by
        have := List.length_pos_iff.1 R.k0
        simpa using this
      have d := dot_between (w := sHw q ks (j - j % (q.length / n.toNat)) (q.length / n.toNat)) (c := sCol vs j) (by rw [sHw_length, sCol_length]; exact R.kv) (fun x hx => (sW_bounds hne x hx).1) (sW_sum hne).1 lo a1 b1 hi (fun x hx => ⟨a2 x hx, b2 x hx⟩)
      exact ⟨d.1, d.2, lo, hi, a1, b1⟩
    have hx0 : ∀ j : Nat, I32 (rd (sAttend q ks vs (q.length / n.toNat)) j) := fun j => i32_rd (sAttend_i32 q ks vs _) _
    generalize sAttend q ks vs (q.length / n.toNat) = x at *
    exact ev_loop x.length (fun k j (_ : Unit) => tillerlaw07_HeadsWithin.l0 k vs x (x.length : Int) (j : Int)) (fun _ => ()) true
      (fun j hj ih => by
        have hjq : j < q.length := by omega
        refine Ev.step (fun k => tillerlaw07_HeadsWithin.l0.eq_2 ..) (ev_pos (by omega) ?_)
        exact ev_loop vs.length (fun k i (t : Int × Int) => tillerlaw07_HeadsWithin.l1 k vs x (j : Int) t.1 t.2 (x.length : Int) (j : Int) vs (vs.length : Int) (i : Int))
          (fun i => (((sCol vs j).take i).foldl mn 0, ((sCol vs j).take i).foldl mx 0)) true
          (fun i hi ih2 => by
            have rv := R.rv _ (List.getElem_mem hi)
            have hic : i < (sCol vs j).length := by rw [sCol_length]; exact hi
            have hc : (sCol vs j)[i] = rd vs[i] j := List.getElem_map _
            simp only [foldl_next _ _ _ i hic, hc] at ih2
            refine Ev.step (fun k => tillerlaw07_HeadsWithin.l1.eq_2 ..) (ev_pos (by omega) (ev_pos (by omega) (ev_pos (by omega) (ev_pos (by omega) ?_))))
            rw [rdL_nat vs i hi, wrap_next hi (by omega)]
            exact ev_pos (by omega) ih2)
          (by
            have hq : (sCol vs j).take vs.length = sCol vs j := List.take_of_length_le (by rw [sCol_length]; omega)
            simp only [hq]
            obtain ⟨b1, b2, b3, b4, b5, b6⟩ := hb j hjq
            have hxj := hx0 j
            have hx1 := hxj.1
            have hx2 := hxj.2
            generalize (sCol vs j).foldl mn 0 = lo at *
            generalize (sCol vs j).foldl mx 0 = hi at *
            refine Ev.step (fun k => tillerlaw07_HeadsWithin.l1.eq_2 ..) (ev_neg (by omega) (ev_pos (by omega) (ev_pos (by omega) ?_)))
            rw [wrap64_id (x := rd x (j : Int)) (by omega) (by omega), wrap64_id (x := lo) (by omega) (by omega), wrap64_id (x := hi) (by omega) (by omega), wrap64_id (x := lo - 1) (by omega) (by omega), wrap64_id (x := hi + 1) (by omega) (by omega), wrap_next hj (by omega)]
            exact ev_neg (by omega) (ev_neg (by omega) ih)) 0 (by omega))
      (Ev.step (fun k => tillerlaw07_HeadsWithin.l0.eq_2 ..) (ev_neg (by omega) (Ev.bind awake07_ev (Ev.now _)))) 0 (by omega)
  · have A : Ev (fun k => heads_Attend.f k q ks vs n) ([], e) := by
      unfold heads_Attend.f
      exact Ev.bind he (ev_neg c (Ev.now _))
    exact Ev.bind A (ev_neg c (Ev.bind awake07_ev (ev_pos rfl (Ev.now _))))
end Go.Proofs.Ytepbebelbcbciaa.Pure
