/- Rows cut to a few of their numbers, and two rows that are the same. Conditions: the bounds that each lemma names. -/
import Derived.Test.YtepbebelbcbciaaQx0
import Derived.Test.YtepbebelbcbciaaQx1
import Derived.Test.YtepbebelbcbciaaQx11
import Derived.Test.YtepbebelbcbciaaEv
namespace Go.Proofs.Ytepbebelbcbciaa.Q
open Go.RowKit Go.Proofs.YtepbebelbcbciaaW.PrintWords Go.Proofs.YtepbebelbcbciaaW.PrintLast
set_option linter.unusedVariables false
set_option linter.unusedSimpArgs false

theorem few_eq (l : List Int) (n : Nat) (h : l.length * 4 ≤ 140737488351232) : tillerlaw03_Few.f l (n : Int) = some (l.take n) := by
  unfold tillerlaw03_Few.f
  by_cases c : (l.length : Int) > (n : Int)
  · rw [if_pos c, if_pos (by omega), if_pos (by omega)]
    simp only [Option.bind_some, List.length_nil, List.nil_append, Int.toNat_natCast]
    rw [if_pos (by rw [List.length_take]; omega)]
  · rw [if_neg c]
    simp only [Option.bind_some, List.length_nil, List.nil_append]
    rw [if_pos (by omega), List.take_of_length_le (by omega)]
theorem foldl_next {α β : Type} (l : List α) (g : β → α → β) (z : β) (i : Nat) (h : i < l.length) : (l.take (i + 1)).foldl g z = g ((l.take i).foldl g z) l[i] := by
  rw [take_next l i h, List.foldl_append]
  rfl
theorem map_next {α β : Type} (l : List α) (f : α → β) (i : Nat) (h : i < l.length) : (l.take (i + 1)).map f = (l.take i).map f ++ [f l[i]] := by
  rw [take_next l i h, List.map_append]
  rfl

theorem range_next {α : Type} (f : Nat → α) (i : Nat) : (List.range (i + 1)).map f = (List.range i).map f ++ [f i] := by rw [List.range_succ, List.map_append]; rfl
/-- Rows of fixed numbers of a machine. -/
def Rows32 (l : List (List Int)) : Prop := ∀ r ∈ l, r.length * 4 ≤ 140737488351232 ∧ ∀ x ∈ r, I32 x
theorem rdL_nat (l : List (List Int)) (i : Nat) (h : i < l.length) : rd_L2 l (i : Int) = l[i] := by
  unfold rd_L2
  simp [h]
def few40 (l : List (List Int)) (n : Nat) : List (List Int) := (l.take n).map (List.take 40)
theorem few40_length (l : List (List Int)) (n : Nat) : (few40 l n).length = min n l.length := by unfold few40; rw [List.length_map, List.length_take]
theorem few40_row {l : List (List Int)} {n : Nat} (h : Rows32 l) {r : List Int} (hr : r ∈ few40 l n) : r.length ≤ 40 ∧ ∀ x ∈ r, I32 x := by
  obtain ⟨s, hs, rfl⟩ := List.mem_map.1 hr
  refine ⟨by rw [List.length_take]; omega, fun x hx => (h s (List.mem_of_mem_take hs)).2 x (List.mem_of_mem_take hx)⟩
theorem rows_ev (l : List (List Int)) (n : Nat) (h : Rows32 l) (hn : n ≤ 1000) : Ev (fun k => tillerlaw05_Rows.f k l (n : Int)) (few40 l n) := by
  unfold tillerlaw05_Rows.f
  have hL : (few40 l n).length = min n l.length := few40_length l n
  exact ev_loop (min n l.length) (fun k i (s : List (List Int)) => tillerlaw05_Rows.l0 k l (n : Int) s (i : Int)) (fun i => (l.take i).map (List.take 40)) (few40 l n)
    (fun i hi ih => by
      have hi2 : i < l.length := by omega
      have hr := h _ (List.getElem_mem hi2)
      have hlen : ((l.take i).map (List.take 40)).length = i := by rw [List.length_map, List.length_take]; omega
      simp only [map_next _ _ i hi2] at ih
      refine Ev.step (fun k => tillerlaw05_Rows.l0.eq_2 ..) (ev_pos (by omega) (ev_pos (by omega) (ev_pos (by omega) ?_)))
      rw [rdL_nat l i hi2, wrap_next hi (by omega)]
      exact ev_some (few_eq l[i] 40 hr.1) (ev_pos (by omega) ih))
    (by
      refine Ev.step (fun k => tillerlaw05_Rows.l0.eq_2 ..) ?_
      have e : (l.take (min n l.length)).map (List.take 40) = few40 l n := by
        unfold few40
        congr 1
        rcases Nat.le_total n l.length with h | h
        · rw [Nat.min_eq_left h]
        · rw [Nat.min_eq_right h, List.take_length, List.take_of_length_le h]
      refine ev_if (fun _ => ev_neg (by omega) ?_) (fun _ => ?_)
      all_goals exact ev_eq (Ev.now _) e) 0 (by omega)

theorem same_ev (a b : List Int) (h : a = b) (hl : a.length ≤ 9223372036854775806) : Ev (fun k => tillerref03_Same.f k a b) true := by
  subst h
  unfold tillerref03_Same.f
  refine ev_pos rfl ?_
  exact ev_loop a.length (fun k i (_ : Unit) => tillerref03_Same.l0 k a a (a.length : Int) (i : Int)) (fun _ => ()) true
    (fun i hi ih => by
      refine Ev.step (fun k => tillerref03_Same.l0.eq_2 ..) (ev_pos (by omega) (ev_pos (by omega) (ev_pos (by omega) (ev_pos (by omega) (ev_pos rfl ?_)))))
      rw [wrap_next hi (by omega)]
      exact ih)
    (Ev.step (fun k => tillerref03_Same.l0.eq_2 ..) (ev_neg (by omega) (Ev.now _))) 0 (by omega)
end Go.Proofs.Ytepbebelbcbciaa.Q
