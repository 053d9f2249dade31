/- The statement HeadsTurns without Go and memory: keys and values that change places together change nothing. No condition but that the rows are ones of a machine. -/
import Derived.Test.YtepbebelbcbciaaQx6
import Derived.Test.YtepbebelbcbciaaAwake07
import Derived.Test.YtepbebelbcbciaaEv
import Derived.Test.YtepbebelbcbciaaHeads
import Derived.Test.YtepbebelbcbciaaHeads2
import Derived.Test.YtepbebelbcbciaaSoft
import Derived.Test.YtepbebelbcbciaaSoft3
import Derived.Test.YtepbebelbcbciaaTurn
import Derived.Test.YtepbebelbcbciaaTurnsWalk
namespace Go.Proofs.Ytepbebelbcbciaa.Pure
open Go.RowKit Go.Proofs.Ytepbebelbcbciaa.Q Go.Proofs.YtepbebelbcbciaaW.PrintWords Go.Proofs.YtepbebelbcbciaaW.PrintLast
set_option linter.unusedVariables false
set_option linter.unusedSimpArgs false

theorem swapRows_length (l : List (List Int)) (i j : Int) : (swapRows l i j).length = l.length := by unfold swapRows; simp
theorem swapRows_mem {l : List (List Int)} {i j : Nat} (hi : i < l.length) (hj : j < l.length) {r : List Int} (hr : r ∈ swapRows l i j) : r ∈ l := by
  unfold swapRows at hr
  rw [Int.toNat_natCast, Int.toNat_natCast] at hr
  have e : ∀ m, m < l.length → l.getD m [] ∈ l := by
    intro m hm
    rw [List.getD_eq_getElem?_getD, List.getElem?_eq_getElem hm]
    exact List.getElem_mem hm
  rcases List.mem_or_eq_of_mem_set hr with h | h
  · rcases List.mem_or_eq_of_mem_set h with h | h
    · exact h
    · rw [h]
      exact e j hj
  · rw [h]
    exact e i hi
theorem few_again {l : List (List Int)} (h : l.length ≤ 60) (hr : ∀ r ∈ l, r.length ≤ 40) : few40 l 60 = l := by
  unfold few40
  rw [List.take_of_length_le h]
  have : l.map (List.take 40) = l.map id := List.map_congr_left fun r hr' => List.take_of_length_le (hr r hr')
  rw [this, List.map_id]
theorem HeadsTurns : tillerlaw07_HeadsTurns.PureG := by
  intro l0 l1 l2 n i j h0 h1 h2 h3 h4 h5
  refine Ev.rounds (?_ : Ev (fun k => tillerlaw07_HeadsTurns.f k l0 l1 l2 n i j) true)
  unfold tillerlaw07_HeadsTurns.f
  have hR1 : Rows32 l1 := fun r hr => ⟨(h1.2 r hr).1, fun x hx => i32_of_wf ((h1.2 r hr).2 x hx)⟩
  have hR2 : Rows32 l2 := fun r hr => ⟨(h2.2 r hr).1, fun x hx => i32_of_wf ((h2.2 r hr).2 x hx)⟩
  refine ev_some (few_eq l0 32 h0.1) (Ev.bind (rows_ev l1 60 hR1 (by decide)) (Ev.bind (rows_ev l2 60 hR2 (by decide)) ?_))
  have wq : ∀ x ∈ l0.take 32, I32 x := fun x hx => i32_of_wf (h0.2 x (List.mem_of_mem_take hx))
  have hlq : (l0.take 32).length ≤ 32 := by rw [List.length_take]; omega
  have wk : ∀ r ∈ few40 l1 60, r.length ≤ 40 ∧ ∀ x ∈ r, I32 x := fun r hr => few40_row hR1 hr
  have wv : ∀ r ∈ few40 l2 60, r.length ≤ 40 ∧ ∀ x ∈ r, I32 x := fun r hr => few40_row hR2 hr
  have hlk : (few40 l1 60).length ≤ 60 := by rw [few40_length]; omega
  have hlv : (few40 l2 60).length ≤ 60 := by rw [few40_length]; omega
  generalize l0.take 32 = q at *
  generalize few40 l1 60 = ks at *
  generalize few40 l2 60 = vs at *
  obtain ⟨e, he, hfit⟩ := fit_ev q ks vs n (by omega) (by omega) (by omega)
  have jt : ∀ x : List Int, Ev (fun k => tillerlaw07_HeadsTurns.j0 k q ks vs n i j x true) true := fun x =>
    Ev.step (fun k => tillerlaw07_HeadsTurns.j0.eq_2 ..) (ev_pos rfl (Ev.bind awake07_ev (Ev.now _)))
  by_cases c : e = 0
  · subst c
    have F := hfit.1 rfl
    have R := rows_of_fits F wq (fun r hr => (wk r hr).2) (fun r hr => (wv r hr).2)
    obtain ⟨A, hs, _⟩ := attend_ev F R he
    refine Ev.bind A (ev_pos rfl ?_)
    dsimp only
    refine ev_if (fun _ => jt _) (fun hi0 => ev_if (fun _ => jt _) (fun hj0 => ev_if (fun _ => jt _) (fun hil => ?_)))
    by_cases hjl : j ≥ (ks.length : Int)
    · rw [decide_eq_true hjl]
      exact jt _
    · rw [decide_eq_false hjl]
      have hkv := F.kv
      refine Ev.step (fun k => tillerlaw07_HeadsTurns.j0.eq_2 ..) (ev_neg (by decide) ?_)
      have hRk : Rows32 ks := fun r hr => ⟨by have := (wk r hr).1; omega, (wk r hr).2⟩
      have hRv : Rows32 vs := fun r hr => ⟨by have := (wv r hr).1; omega, (wv r hr).2⟩
      have ek := rows_ev ks 60 hRk (by decide)
      have ev_ := rows_ev vs 60 hRv (by decide)
      rw [few_again hlk (fun r hr => (wk r hr).1)] at ek
      rw [few_again hlv (fun r hr => (wv r hr).1)] at ev_
      refine Ev.bind ek (Ev.bind ev_ (ev_pos ⟨by omega, by omega, by omega, by omega, hkv⟩ ?_))
      obtain ⟨a, rfl⟩ := Int.eq_ofNat_of_zero_le (show 0 ≤ i by omega)
      obtain ⟨b, rfl⟩ := Int.eq_ofNat_of_zero_le (show 0 ≤ j by omega)
      have ha : a < ks.length := by omega
      have hb : b < ks.length := by omega
      have lk := swapRows_length ks (a : Int) (b : Int)
      have lv := swapRows_length vs (a : Int) (b : Int)
      have mk : ∀ r ∈ swapRows ks a b, r ∈ ks := fun r hr => swapRows_mem ha hb hr
      have mv : ∀ r ∈ swapRows vs a b, r ∈ vs := fun r hr => swapRows_mem (by omega) (by omega) hr
      have F2 : Fits q (swapRows ks a b) (swapRows vs a b) n := by
        refine ⟨F.n0, F.n1, F.q0, F.q1, by rw [lk]; exact F.k0, by rw [lk]; exact F.k1, F.dv, by rw [lk, lv]; exact hkv, fun m hm => ?_, fun m hm => ?_⟩
        · rw [rdL_nat _ m hm]
          exact (R.rk _ (mk _ (List.getElem_mem hm))).1
        · have hm2 : m < (swapRows vs (a : Int) (b : Int)).length := by omega
          rw [rdL_nat _ m hm2]
          exact (R.rv _ (mv _ (List.getElem_mem hm2))).1
      have R2 := rows_of_fits F2 wq (fun r hr => (wk r (mk r hr)).2) (fun r hr => (wv r (mv r hr)).2)
      obtain ⟨e2, he2, hfit2⟩ := fit_ev q (swapRows ks a b) (swapRows vs a b) n (by omega) (by omega) (by omega)
      have e20 : e2 = 0 := hfit2.2 F2
      subst e20
      obtain ⟨A2, _, _⟩ := attend_ev F2 R2 he2
      have hsame : sAttend q ks vs (q.length / n.toNat) = sAttend q (swapRows ks a b) (swapRows vs a b) (q.length / n.toNat) := by
        unfold sAttend
        refine List.map_congr_left fun m _ => ?_
        refine sAtt_perm (List.length_pos_iff.1 F.k0) hkv (by omega) F.k1 (fun r hr => (R.rv r hr).2) ?_ _ _
        have z := zip_swap hkv a b ha hb
        unfold swapRows
        rw [Int.toNat_natCast, Int.toNat_natCast]
        exact z.symm
      refine Ev.bind A2 (Ev.bind awake07_ev (ev_pos rfl (ev_pos rfl (Ev.bind (same_ev _ _ hsame ?_) (Ev.now _)))))
      rw [sAttend_length]
      omega
  · have A : Ev (fun k => heads_Attend.f k q ks vs n) ([], e) := by
      unfold heads_Attend.f
      exact Ev.bind he (ev_neg c (Ev.now _))
    exact Ev.bind A (ev_neg c (jt _))
end Go.Proofs.Ytepbebelbcbciaa.Pure
