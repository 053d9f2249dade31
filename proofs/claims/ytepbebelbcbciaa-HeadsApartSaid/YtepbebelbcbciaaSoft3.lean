/- Mixtures of rows, and rows of rows cut to a few: what the program and the document come to. Conditions: the bounds that each lemma names. -/
import Derived.Test.YtepbebelbcbciaaQx0
import Derived.Test.YtepbebelbcbciaaQx1
import Derived.Test.YtepbebelbcbciaaQx5
import Derived.Test.YtepbebelbcbciaaEv
import Derived.Test.YtepbebelbcbciaaNum
import Derived.Test.YtepbebelbcbciaaSoft
import Derived.Test.YtepbebelbcbciaaSoft2
namespace Go.Proofs.Ytepbebelbcbciaa.Q
open Go.RowKit Go.Proofs.YtepbebelbcbciaaW.PrintWords Go.Proofs.YtepbebelbcbciaaW.PrintLast
set_option linter.unusedVariables false
set_option linter.unusedSimpArgs false

/-- Rows of fixed numbers of a machine. -/
def Rows32 (l : List (List Int)) : Prop := ∀ r ∈ l, r.length * 4 ≤ 140737488351232 ∧ ∀ x ∈ r, I32 x
theorem rdL_nat (l : List (List Int)) (i : Nat) (h : i < l.length) : rd_L1 l (i : Int) = l[i] := by
  unfold rd_L1
  simp [h]
def few40 (l : List (List Int)) (n : Nat) : List (List Int) := (l.take n).map (List.take 40)
theorem few40_length (l : List (List Int)) (n : Nat) : (few40 l n).length = min n l.length := by unfold few40; rw [List.length_map, List.length_take]
theorem few40_row {l : List (List Int)} {n : Nat} (h : Rows32 l) {r : List Int} (hr : r ∈ few40 l n) : r.length ≤ 40 ∧ ∀ x ∈ r, I32 x := by
  obtain ⟨s, hs, rfl⟩ := List.mem_map.1 hr
  refine ⟨by rw [List.length_take]; omega, fun x hx => (h s (List.mem_of_mem_take hs)).2 x (List.mem_of_mem_take hx)⟩
theorem rows_ev (l : List (List Int)) (n : Nat) (h : Rows32 l) (hn : n ≤ 1000) : Ev (fun k => tillerlaw05_Rows.f k l (n : Int)) (few40 l n) := by
  unfold tillerlaw05_Rows.f
  have hL : (few40 l n).length = min n l.length := few40_length l n
  exact ev_loop (min n l.length) (fun k i (s : List (List Int)) => tillerlaw05_Rows.l0 k l (n : Int) s (i : Int)) (fun i => (l.take i).map (List.take 40)) (few40 l n)
    (fun i hi ih => by
      have hi2 : i < l.length := by omega
      have hr := h _ (List.getElem_mem hi2)
      have hlen : ((l.take i).map (List.take 40)).length = i := by rw [List.length_map, List.length_take]; omega
      simp only [map_next _ _ i hi2] at ih
      refine Ev.step (fun k => tillerlaw05_Rows.l0.eq_2 ..) (ev_pos (by omega) (ev_pos (by omega) (ev_pos (by omega) ?_)))
      rw [rdL_nat l i hi2, wrap_next hi (by omega)]
      exact ev_some (few_eq l[i] 40 hr.1) (ev_pos (by omega) ih))
    (by
      refine Ev.step (fun k => tillerlaw05_Rows.l0.eq_2 ..) ?_
      have e : (l.take (min n l.length)).map (List.take 40) = few40 l n := by
        unfold few40
        congr 1
        rcases Nat.le_total n l.length with h | h
        · rw [Nat.min_eq_left h]
        · rw [Nat.min_eq_right h, List.take_length, List.take_of_length_le h]
      refine ev_if (fun _ => ev_neg (by omega) ?_) (fun _ => ?_)
      all_goals exact ev_eq (Ev.now _) e) 0 (by omega)

/-! mixtures -/
/-- The column of a place. -/
def sCol (rows : List (List Int)) (j : Nat) : List Int := rows.map fun r => rd r j
def sMix (w : List Int) (rows : List (List Int)) (n : Nat) : List Int := (List.range n).map fun j => sDot w (sCol rows j)
theorem sMix_length (w : List Int) (rows : List (List Int)) (n : Nat) : (sMix w rows n).length = n := by unfold sMix; rw [List.length_map, List.length_range]
theorem sMix_i32 (w : List Int) (rows : List (List Int)) (n : Nat) : ∀ x ∈ sMix w rows n, I32 x := by
  intro x hx
  obtain ⟨j, _, rfl⟩ := List.mem_map.1 hx
  exact i32_sDot _ _
theorem range_next {α : Type} (f : Nat → α) (i : Nat) : (List.range (i + 1)).map f = (List.range i).map f ++ [f i] := by rw [List.range_succ, List.map_append]; rfl
theorem sCol_length (rows : List (List Int)) (j : Nat) : (sCol rows j).length = rows.length := List.length_map _
theorem sCol_i32 (rows : List (List Int)) (j : Nat) (h : ∀ r ∈ rows, ∀ x ∈ r, I32 x) : ∀ x ∈ sCol rows j, I32 x := by
  intro x hx
  obtain ⟨r, hr, rfl⟩ := List.mem_map.1 hx
  exact i32_rd (h r hr) _
/-- The program's mixture of rows that go together. -/
theorem mix_ev {w : List Int} {rows : List (List Int)} {n : Nat} (h0 : w ≠ []) (hl : w.length ≤ 4096) (hr : w.length = rows.length) (hn : n ≤ 1000000)
    (hrows : ∀ r ∈ rows, r.length = n ∧ ∀ x ∈ r, I32 x) (hw : ∀ x ∈ w, I32 x) : Ev (fun k => soft_Mix.f k w rows) (sMix w rows n, 0) := by
  have hp : 0 < w.length := List.length_pos_iff.2 h0
  have hcol := fun j => sCol_i32 rows j (fun r hr => (hrows r hr).2)
  unfold soft_Mix.f
  refine ev_neg (by omega) ?_
  refine Ev.step (fun k => soft_Mix.j0.eq_2 ..) (ev_neg (fun h => by have := eq_of_beq h; omega) (ev_neg (by omega) (ev_pos (by omega) (ev_pos (by omega) ?_))))
  have hr0 : (rd_L1 rows 0).length = n := by
    have e := rdL_nat rows 0 (by omega)
    rw [show (((0 : Nat) : Int)) = 0 from rfl] at e
    rw [e]
    exact (hrows _ (List.getElem_mem _)).1
  rw [hr0]
  have l1 : Ev (fun k => soft_Mix.l1 k w rows [] (n : Int) 0) (sMix w rows n, 0) :=
    ev_loop n (fun k j (s : List Int) => soft_Mix.l1 k w rows s (n : Int) (j : Int)) (fun j => sMix w rows j) (sMix w rows n, 0)
      (fun j hj ih => by
        have hs : sMix w rows (j + 1) = sMix w rows j ++ [sDot w (sCol rows j)] := range_next _ j
        rw [hs] at ih
        refine Ev.step (fun k => soft_Mix.l1.eq_2 ..) (ev_pos (by omega) ?_)
        have hlen := sProd_length w (sCol rows j) (by rw [sCol_length]; exact hr)
        exact ev_loop w.length (fun k i (s : Int) => soft_Mix.l2 k w rows (sMix w rows j) (j : Int) s (n : Int) (j : Int) w (w.length : Int) (i : Int)) (fun i => sSum ((sProd w (sCol rows j)).take i)) (sMix w rows n, 0)
          (fun i hi ih2 => by
            have hi2 : i < rows.length := by omega
            have hi3 : i < (sCol rows j).length := by rw [sCol_length]; exact hi2
            have hrow := hrows _ (List.getElem_mem hi2)
            have xa := hw _ (List.getElem_mem hi)
            have hc : (sCol rows j)[i] = rd rows[i] j := List.getElem_map _
            have xb : I32 (rd rows[i] j) := i32_rd hrow.2 _
            simp only [sSum_next _ i (show i < (sProd w (sCol rows j)).length by omega), sProd_get w (sCol rows j) i (by omega) hi hi3, hc] at ih2
            refine Ev.step (fun k => soft_Mix.l2.eq_2 ..) (ev_pos (by omega) (ev_pos (by omega) (ev_pos (by omega) (ev_pos (by omega) (ev_pos (by omega) ?_)))))
            rw [rdL_nat rows i hi2, rd_nat w i hi, wrap_mul xa xb, wrap_next hi (by omega)]
            exact ev_pos (by omega) (Ev.bind (vec_Grow_ev (sSum_big _) (big_mul xa xb)) ih2))
          (by
            have hq : (sProd w (sCol rows j)).take w.length = sProd w (sCol rows j) := by rw [← hlen, take_all]
            refine Ev.step (fun k => soft_Mix.l2.eq_2 ..) (ev_neg (by omega) ?_)
            rw [hq, wrap_next hj (by omega)]
            exact Ev.bind (fix_Round_ev (sSum_big _)) (ev_some (fix_Sat_eq _) (ev_pos (by rw [sMix_length]; omega) ih))) 0 (by omega))
      (Ev.step (fun k => soft_Mix.l1.eq_2 ..) (ev_neg (by omega) (Ev.now _))) 0 (by omega)
  exact ev_loop rows.length (fun k i (_ : Unit) => soft_Mix.l0 k w rows (n : Int) rows (rows.length : Int) (i : Int)) (fun _ => ()) (sMix w rows n, 0)
    (fun i hi ih => by
      have hrow := hrows _ (List.getElem_mem hi)
      refine Ev.step (fun k => soft_Mix.l0.eq_2 ..) (ev_pos (by omega) (ev_pos (by omega) (ev_pos (by omega) ?_)))
      rw [rdL_nat rows i hi, wrap_next hi (by omega)]
      exact ev_pos (by omega) ih)
    (Ev.step (fun k => soft_Mix.l0.eq_2 ..) (ev_neg (by omega) l1)) 0 (by omega)
end Go.Proofs.Ytepbebelbcbciaa.Q
