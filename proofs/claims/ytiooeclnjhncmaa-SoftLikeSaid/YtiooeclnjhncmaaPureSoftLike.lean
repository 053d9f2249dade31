/- The statement SoftLike without Go and memory: numbers that are all raised alike weigh alike. No condition but that the row and the number are ones of a machine. -/
import Derived.Test.YtiooeclnjhncmaaQx1
import Derived.Test.YtiooeclnjhncmaaQx5
import Derived.Test.YtiooeclnjhncmaaAwake05
import Derived.Test.YtiooeclnjhncmaaCurve
import Derived.Test.YtiooeclnjhncmaaEv
import Derived.Test.YtiooeclnjhncmaaNum
import Derived.Test.YtiooeclnjhncmaaSoft
namespace Go.Proofs.Ytiooeclnjhncmaa.Pure
open Go.RowKit Go.Proofs.Ytiooeclnjhncmaa.Q Go.Proofs.YtiooeclnjhncmaaW.PrintWords Go.Proofs.YtiooeclnjhncmaaW.PrintLast
set_option linter.unusedVariables false
set_option linter.unusedSimpArgs false

theorem sTop_shift {l : List Int} (h : l ≠ []) (c : Int) : sTop (l.map (· + c)) = sTop l + c := by
  refine sTop_eq (List.mem_map.2 ⟨_, sTop_mem h, rfl⟩) fun x hx => ?_
  obtain ⟨y, hy, rfl⟩ := List.mem_map.1 hx
  have := sTop_ge hy
  omega
theorem sW_shift (l : List Int) (c : Int) : sW (l.map (· + c)) = sW l := by
  by_cases h : l = []
  · subst h
    rfl
  · have e : sPs (l.map (· + c)) = sPs l := by
      unfold sPs
      rw [List.map_map, sTop_shift h]
      refine List.map_congr_left fun x _ => ?_
      show sPow (sSat (x + c - (sTop l + c))) = _
      rw [show x + c - (sTop l + c) = x - sTop l by omega]
    unfold sW
    rw [e]
theorem SoftLike : tillerlaw05_SoftLike.Pure := by
  intro l0 a1 h1 h2 h3 h4
  refine Ev.rounds (?_ : Ev (fun k => tillerlaw05_SoftLike.f k l0 a1) true)
  unfold tillerlaw05_SoftLike.f
  refine ev_some (few_eq l0 400 h2) ?_
  have hw : ∀ x ∈ l0.take 400, I32 x := fun x hx => i32_of_wf (h3 x (List.mem_of_mem_take hx))
  have hl4 : (l0.take 400).length ≤ 400 := by rw [List.length_take]; omega
  have ha := i32_of_wf h4
  have ha1 := ha.1
  have ha2 := ha.2
  generalize l0.take 400 = l at *
  obtain ⟨c, hc⟩ : ∃ c, c = Int.tdiv a1 4 := ⟨_, rfl⟩
  have hc1 : -536870912 ≤ c ∧ c ≤ 536870912 := by
    rcases Int.le_total 0 a1 with h | h
    · rw [hc, tdiv_pos h]
      omega
    · rw [hc, tdiv_neg' h]
      omega
  have hh : ∀ x, I32 x → -1073741824 ≤ Int.tdiv x 2 ∧ Int.tdiv x 2 ≤ 1073741823 := by
    intro x hx
    have h1 := hx.1
    have h2 := hx.2
    rcases Int.le_total 0 x with h | h
    · rw [tdiv_pos h]
      omega
    · rw [tdiv_neg' h]
      omega
  have hm : (l.map fun x => Int.tdiv x 2).length = l.length := List.length_map _
  have loop : ∀ (m : List Int), m.length = l.length → (∀ x ∈ m, I32 x) → m = l.map (fun x => Int.tdiv x 2) →
      Ev (fun k => (soft_Weights.f k m).bind fun bt212 => ((soft_Weights.f k (m.map (· + c))).bind fun bt216 => (if bt212.2 = bt216.2 then (tillerlaw05_SoftLike.j1 k bt212.1 bt216.1 ((bt212.1.length : Int) != (bt216.1.length : Int))) else (tillerlaw05_SoftLike.j1 k bt212.1 bt216.1 true)))) true := by
    intro m hml hmw hme
    have last : ∀ w : List Int, w.length ≤ 400 → Ev (fun k => tillerlaw05_SoftLike.j1 k w w ((w.length : Int) != (w.length : Int))) true := by
      intro w hwl
      refine Ev.step (fun k => tillerlaw05_SoftLike.j1.eq_2 ..) (ev_neg (by simp) ?_)
      exact ev_loop w.length (fun k i (_ : Unit) => tillerlaw05_SoftLike.l1 k w w (w.length : Int) (i : Int)) (fun _ => ()) true
        (fun i hi ih => by
          refine Ev.step (fun k => tillerlaw05_SoftLike.l1.eq_2 ..) (ev_pos (by omega) (ev_pos (by omega) (ev_pos (by omega) (ev_pos (by omega) (ev_pos rfl ?_)))))
          rw [wrap_next hi (by omega)]
          exact ih)
        (Ev.step (fun k => tillerlaw05_SoftLike.l1.eq_2 ..) (ev_neg (by omega) (Ev.bind awake05_ev (Ev.now _)))) 0 (by omega)
    by_cases c0 : m = []
    · subst c0
      have e1 : ∀ k, soft_Weights.f k [] = some ([], 8) := fun k => by unfold soft_Weights.f; exact if_pos rfl
      exact Ev.bind (ev_of_eq e1) (Ev.bind (ev_of_eq e1) (ev_pos rfl (last [] (by simp))))
    · have c1 : m.map (· + c) ≠ [] := fun e => c0 (List.map_eq_nil_iff.1 e)
      refine Ev.bind (weights_ev c0 (by omega) hmw) (Ev.bind (weights_ev c1 (by rw [List.length_map]; omega) ?_) (ev_pos rfl ?_))
      · intro x hx
        obtain ⟨y, hy, rfl⟩ := List.mem_map.1 hx
        rw [hme] at hy
        obtain ⟨z, hz, rfl⟩ := List.mem_map.1 hy
        have := hh z (hw z hz)
        exact ⟨by omega, by omega⟩
      · rw [sW_shift]
        exact last _ (by rw [sW_length]; omega)
  exact ev_loop l.length (fun k i (s : List Int × List Int) => tillerlaw05_SoftLike.l0 k s.1 a1 s.2 (l.length : Int) (i : Int))
    (fun i => ((l.take i).map (fun x => Int.tdiv x 2) ++ l.drop i, (l.take i).map (fun x => Int.tdiv x 2 + c))) true
    (fun i hi ih => by
      have hd : l.drop i = l[i] :: l.drop (i + 1) := List.drop_eq_getElem_cons hi
      have hx := hh _ (hw _ (List.getElem_mem hi))
      have hlen : ((l.take i).map (fun x => Int.tdiv x 2)).length = i := by rw [List.length_map, List.length_take]; omega
      have hlen2 : ((l.take i).map (fun x => Int.tdiv x 2 + c)).length = i := by rw [List.length_map, List.length_take]; omega
      simp only [map_next _ _ i hi, List.append_assoc, List.singleton_append] at ih
      simp only [hd]
      generalize (l.take i).map (fun x => Int.tdiv x 2) = a at *
      have hla : (a ++ l[i] :: l.drop (i + 1)).length = l.length := by rw [List.length_append, List.length_cons, List.length_drop]; omega
      have hr : rd (a ++ l[i] :: l.drop (i + 1)) (i : Int) = l[i] := by
        rw [rd_nat _ i (by omega), List.getElem_append_right (by omega)]
        simp [hlen]
      have hset := set_mid a (l.drop (i + 1)) l[i] (Int.tdiv l[i] 2)
      rw [hlen] at hset
      have hr2 : rd (a ++ Int.tdiv l[i] 2 :: l.drop (i + 1)) (i : Int) = Int.tdiv l[i] 2 := by
        rw [rd_nat _ i (by rw [List.length_append, List.length_cons, List.length_drop]; omega), List.getElem_append_right (by omega)]
        simp [hlen]
      refine Ev.step (fun k => tillerlaw05_SoftLike.l0.eq_2 ..) (ev_pos (by omega) (ev_pos (by omega) (ev_pos (by omega) ?_)))
      rw [hr, Int.toNat_natCast, wrap32_id (x := Int.tdiv l[i] 2) (by omega) (by omega), hset]
      simp only [Option.bind_some]
      rw [hr2, ← hc, wrap32_id (x := c) (by omega) (by omega), wrap32_id (by omega) (by omega), wrap_next hi (by omega)]
      exact ev_pos (by omega) ih)
    (by
      rw [take_all, List.drop_length, List.append_nil]
      refine Ev.step (fun k => tillerlaw05_SoftLike.l0.eq_2 ..) (ev_neg (by omega) ?_)
      have e : (l.map fun x => Int.tdiv x 2 + c) = (l.map fun x => Int.tdiv x 2).map (· + c) := by rw [List.map_map]; rfl
      simp only [e]
      refine loop _ hm (fun x hx => ?_) rfl
      obtain ⟨y, hy, rfl⟩ := List.mem_map.1 hx
      have := hh y (hw y hy)
      exact ⟨by omega, by omega⟩) 0 (by omega)
end Go.Proofs.Ytiooeclnjhncmaa.Pure
