/- The statement HeadsApart without Go and memory: what the numbers of the second head are doesn't matter to the first. No condition but that the rows are ones of a machine. -/
import Derived.Test.YtepbebelbcbciaaQx1
import Derived.Test.YtepbebelbcbciaaQx6
import Derived.Test.YtepbebelbcbciaaApartWalk
import Derived.Test.YtepbebelbcbciaaAwake07
import Derived.Test.YtepbebelbcbciaaEv
import Derived.Test.YtepbebelbcbciaaHeads
import Derived.Test.YtepbebelbcbciaaHeads2
import Derived.Test.YtepbebelbcbciaaOver
import Derived.Test.YtepbebelbcbciaaSoft
import Derived.Test.YtepbebelbcbciaaSoft3
namespace Go.Proofs.Ytepbebelbcbciaa.Pure
open Go.RowKit Go.Proofs.Ytepbebelbcbciaa.Q Go.Proofs.YtepbebelbcbciaaW.PrintWords Go.Proofs.YtepbebelbcbciaaW.PrintLast
set_option linter.unusedVariables false
set_option linter.unusedSimpArgs false

theorem few_again60 {l : List (List Int)} (h : l.length ≤ 60) (hr : ∀ r ∈ l, r.length ≤ 40) : few40 l 60 = l := by
  unfold few40
  rw [List.take_of_length_le h]
  have : l.map (List.take 40) = l.map id := List.map_congr_left fun r hr' => List.take_of_length_le (hr r hr')
  rw [this, List.map_id]
theorem HeadsApart : tillerlaw07_HeadsApart.PureG := by
  intro l0 l1 l2 x h0 h1 h2 h3
  refine Ev.rounds (?_ : Ev (fun k => tillerlaw07_HeadsApart.f k l0 l1 l2 x) true)
  unfold tillerlaw07_HeadsApart.f
  have hR1 : Rows32 l1 := fun r hr => ⟨(h1.2 r hr).1, fun x hx => i32_of_wf ((h1.2 r hr).2 x hx)⟩
  have hR2 : Rows32 l2 := fun r hr => ⟨(h2.2 r hr).1, fun x hx => i32_of_wf ((h2.2 r hr).2 x hx)⟩
  have wx : I32 x := i32_of_wf h3
  refine ev_some (few_eq l0 32 h0.1) (Ev.bind (rows_ev l1 60 hR1 (by decide)) (Ev.bind (rows_ev l2 60 hR2 (by decide)) ?_))
  have wq : ∀ x ∈ l0.take 32, I32 x := fun x hx => i32_of_wf (h0.2 x (List.mem_of_mem_take hx))
  have hlq : (l0.take 32).length ≤ 32 := by rw [List.length_take]; omega
  have wk : ∀ r ∈ few40 l1 60, r.length ≤ 40 ∧ ∀ x ∈ r, I32 x := fun r hr => few40_row hR1 hr
  have wv : ∀ r ∈ few40 l2 60, r.length ≤ 40 ∧ ∀ x ∈ r, I32 x := fun r hr => few40_row hR2 hr
  have hlk : (few40 l1 60).length ≤ 60 := by rw [few40_length]; omega
  have hlv : (few40 l2 60).length ≤ 60 := by rw [few40_length]; omega
  generalize l0.take 32 = q at *
  generalize few40 l1 60 = ks at *
  generalize few40 l2 60 = vs at *
  obtain ⟨e, he, hfit⟩ := fit_ev q ks vs 2 (by omega) (by omega) (by omega)
  by_cases c : e = 0
  · subst c
    have F := hfit.1 rfl
    have R := rows_of_fits F wq (fun r hr => (wk r hr).2) (fun r hr => (wv r hr).2)
    obtain ⟨A, hs, hmul⟩ := attend_ev F R he
    have h2 : (2 : Int).toNat = 2 := rfl
    rw [h2] at A hs hmul
    refine Ev.bind A (ev_pos rfl ?_)
    dsimp only
    have hw : wrap64 ((q.length : Int) / 2) = ((q.length / 2 : Nat) : Int) := by rw [wrap64_id (by omega) (by omega)]; omega
    rw [hw]
    obtain ⟨h, hh⟩ : ∃ h, h = q.length / 2 := ⟨_, rfl⟩
    rw [← hh] at A hs hmul ⊢
    have hkv := F.kv
    have hRk : Rows32 ks := fun r hr => ⟨by have := (wk r hr).1; omega, (wk r hr).2⟩
    have hRv : Rows32 vs := fun r hr => ⟨by have := (wv r hr).1; omega, (wv r hr).2⟩
    have ek := rows_ev ks 60 hRk (by decide)
    have ev_ := rows_ev vs 60 hRv (by decide)
    rw [few_again60 hlk (fun r hr => (wk r hr).1)] at ek
    rw [few_again60 hlv (fun r hr => (wv r hr).1)] at ev_
    have eq_ : tillerlaw03_Few.f q 32 = some q := by
      have := few_eq q 32 (by omega)
      rwa [List.take_of_length_le hlq] at this
    refine ev_some eq_ (Ev.bind ek (Ev.bind ev_ ?_))
    have hxl := sAttend_length q ks vs h
    have key := ev_loop h (fun k d (s : List Int × List (List Int) × List (List Int)) => tillerlaw07_HeadsApart.l0 k q (sAttend q ks vs h) (h : Int) x s.1 s.2.1 s.2.2 ((h + d : Nat) : Int))
      (fun d => (ov q h x d, ks.map (fun r => ov r h x d), vs.map (fun r => ov r h x d))) true
      (fun d hd ih => by
        have hql := ov_length q h x d
        have lk : (ks.map fun r => ov r h x d).length = ks.length := List.length_map _
        refine Ev.step (fun k => tillerlaw07_HeadsApart.l0.eq_2 ..) (ev_pos (by omega) (ev_pos ⟨by omega, by dsimp only; omega⟩ ?_))
        dsimp only
        rw [Int.toNat_natCast, lk]
        have inner := ev_loop ks.length (fun k i (s : List (List Int) × List (List Int)) => tillerlaw07_HeadsApart.l1 k q (sAttend q ks vs h) (h : Int) x ((ov q h x d).set (h + d) x) s.1 s.2 ((h + d : Nat) : Int) (ks.length : Int) (i : Int))
          (fun i => ((ks.take i).map (fun r => ov r h x (d + 1)) ++ (ks.drop i).map (fun r => ov r h x d), (vs.take i).map (fun r => ov r h x (d + 1)) ++ (vs.drop i).map (fun r => ov r h x d))) true
          (fun i hi ih2 => by
            have hi2 : i < vs.length := by omega
            have rk := R.rk _ (List.getElem_mem hi)
            have rv := R.rv _ (List.getElem_mem hi2)
            have a1 := state_length ks h d i x
            have a2 := state_length vs h d i x
            have a3 := state_get ks h d i x hi
            have a4 := state_get vs h d i x hi2
            simp only [← poke_state ks h d i x hi, ← poke_state vs h d i x hi2] at ih2
            refine Ev.step (fun k => tillerlaw07_HeadsApart.l1.eq_2 ..) (ev_pos (by omega) (ev_pos ?_ ?_))
            · dsimp only
              rw [Int.toNat_natCast]
              exact ⟨by omega, by omega, by omega, by omega, by omega, by omega⟩
            · rw [wrap_next hi (by omega)]
              exact ih2)
          (by
            have hv : vs.take ks.length = vs := List.take_of_length_le (by omega)
            have hv2 : vs.drop ks.length = [] := List.drop_eq_nil_of_le (by omega)
            simp only [take_all, List.drop_length, List.map_nil, List.append_nil, hv, hv2]
            refine Ev.step (fun k => tillerlaw07_HeadsApart.l1.eq_2 ..) (ev_neg (by omega) ?_)
            have e1 : wrap64 (((h + d : Nat) : Int) + 1) = ((h + (d + 1) : Nat) : Int) := by rw [wrap64_id (by omega) (by omega)]; omega
            rw [e1]
            exact ih) 0 (by omega)
        simpa using inner)
      (by
        dsimp only
        have hql := ov_length q h x h
        have lk : (ks.map fun r => ov r h x h).length = ks.length := List.length_map _
        have lv : (vs.map fun r => ov r h x h).length = vs.length := List.length_map _
        have rk : ∀ r ∈ ks.map (fun r => ov r h x h), r.length = q.length ∧ ∀ y ∈ r, I32 y := by
          intro r hr
          obtain ⟨s, hs, rfl⟩ := List.mem_map.1 hr
          exact ⟨by rw [ov_length]; exact (R.rk s hs).1, ov_i32 wx (R.rk s hs).2 h⟩
        have rv : ∀ r ∈ vs.map (fun r => ov r h x h), r.length = q.length ∧ ∀ y ∈ r, I32 y := by
          intro r hr
          obtain ⟨s, hs, rfl⟩ := List.mem_map.1 hr
          exact ⟨by rw [ov_length]; exact (R.rv s hs).1, ov_i32 wx (R.rv s hs).2 h⟩
        have F2 : Fits (ov q h x h) (ks.map fun r => ov r h x h) (vs.map fun r => ov r h x h) 2 := by
          refine ⟨F.n0, F.n1, by rw [hql]; exact F.q0, by rw [hql]; exact F.q1, by rw [lk]; exact F.k0, by rw [lk]; exact F.k1, by rw [hql]; exact F.dv, by rw [lk, lv]; exact hkv, fun m hm => ?_, fun m hm => ?_⟩
          · rw [rdL_nat _ m hm, hql]
            exact (rk _ (List.getElem_mem hm)).1
          · have hm2 : m < (vs.map fun r => ov r h x h).length := by omega
            rw [rdL_nat _ m hm2, hql]
            exact (rv _ (List.getElem_mem hm2)).1
        have R2 := rows_of_fits F2 (ov_i32 wx wq h) (fun r hr => (rk r hr).2) (fun r hr => (rv r hr).2)
        obtain ⟨e2, he2, hfit2⟩ := fit_ev (ov q h x h) (ks.map fun r => ov r h x h) (vs.map fun r => ov r h x h) 2 (by omega) (by omega) (by omega)
        have e20 : e2 = 0 := hfit2.2 F2
        subst e20
        obtain ⟨A2, _, _⟩ := attend_ev F2 R2 he2
        have hh2 : (ov q h x h).length / (2 : Int).toNat = h := by rw [hql, h2]; exact hh.symm
        rw [hh2] at A2
        have hyl := sAttend_length (ov q h x h) (ks.map fun r => ov r h x h) (vs.map fun r => ov r h x h) h
        have hsame : (sAttend q ks vs h).take h = (sAttend (ov q h x h) (ks.map fun r => ov r h x h) (vs.map fun r => ov r h x h) h).take h := by
          unfold sAttend
          rw [hql, ← List.map_take, ← List.map_take, List.take_range]
          refine List.map_congr_left fun m hm => ?_
          have hm' := List.mem_range.1 hm
          exact (ov_att q ks vs h x h m (by omega)).symm
        refine Ev.step (fun k => tillerlaw07_HeadsApart.l0.eq_2 ..) (ev_neg (by omega) ?_)
        refine Ev.bind A2 (Ev.bind awake07_ev (ev_pos rfl (ev_pos rfl ?_)))
        dsimp only
        refine ev_pos (by omega) (ev_pos (by omega) (ev_pos (by omega) (ev_pos (by omega) (ev_pos (by omega) ?_))))
        rw [Int.toNat_natCast]
        refine Ev.bind (same_ev _ _ hsame ?_) (Ev.now _)
        rw [List.length_take]
        omega) 0 (by omega)
    simpa [ov] using key
  · have A : Ev (fun k => heads_Attend.f k q ks vs 2) ([], e) := by
      unfold heads_Attend.f
      exact Ev.bind he (ev_neg c (Ev.now _))
    exact Ev.bind A (ev_neg c (Ev.bind awake07_ev (ev_pos rfl (Ev.now _))))
end Go.Proofs.Ytepbebelbcbciaa.Pure
