/- The plain law of GreedyOver: what is over for so many tokens is over for fewer, and with a token more. No condition. -/
import Derived.Test.YtjihjjbieeofdaaQz
namespace Go.Proofs.Ytjihjjbieeofdaa.Pure
open Go.RowKit Go.Proofs.Ytjihjjbieeofdaa.Q Go.Proofs.YtjihjjbieeofdaaW.PrintWords Go.Proofs.YtjihjjbieeofdaaW.PrintLast
theorem wrap_small {n : Int} (h : -1 ≤ n ∧ n ≤ 100000) : wrap64 n = n := by unfold wrap64; omega
theorem few_eq (l : List Int) : tillerlaw08_Few.f l 200 = some (l.take 200) := by
  unfold tillerlaw08_Few.f
  by_cases h : (l.length : Int) > 200
  · rw [if_pos h, if_pos (by omega), if_pos (by omega)]
    show (if 0 + (l.take 200).length < 17592186044416 then some ([] ++ l.take 200) else none) = _
    rw [if_pos (by rw [List.length_take]; omega)]; rfl
  · rw [if_neg h]
    show (if 0 + l.length < 17592186044416 then some ([] ++ l) else none) = _
    rw [if_pos (by omega), List.take_of_length_le (by omega)]; rfl
def ov (l : List Int) (m : Int) : Bool := if (l.length : Int) ≥ m then true else if (l.length : Int) > 0 then rd l ((l.length : Int) - 1) == 0 else false
theorem over_eq {l : List Int} (m : Int) (h : l.length ≤ 1000) : greedy_Over.f l m = some (ov l m) := by
  unfold greedy_Over.f ov
  rw [wrap_small (by omega)]
  by_cases h1 : (l.length : Int) ≥ m
  · rw [if_pos h1, if_pos h1]
  · rw [if_neg h1, if_neg h1]
    by_cases h2 : (l.length : Int) > 0
    · rw [if_pos h2, if_pos h2, if_pos (by omega), if_pos (by omega)]
    · rw [if_neg h2, if_neg h2]
theorem ov_len {l : List Int} {m : Int} (h : (l.length : Int) ≥ m) : ov l m = true := by unfold ov; rw [if_pos h]
theorem ov_last {l : List Int} {m : Int} (h : (l.length : Int) > 0) (h0 : rd l ((l.length : Int) - 1) = 0) : ov l m = true := by
  unfold ov
  by_cases h1 : (l.length : Int) ≥ m
  · rw [if_pos h1]
  · rw [if_neg h1, if_pos h, h0]; rfl
theorem rd_last (l : List Int) : rd (l ++ [0]) (((l ++ [(0 : Int)]).length : Int) - 1) = 0 := by
  rw [List.length_append]
  show (l ++ [0]).getD (((l.length + 1 : Nat) : Int) - 1).toNat 0 = 0
  rw [show (((l.length + 1 : Nat) : Int) - 1).toNat = l.length by omega, List.getD_eq_getElem?_getD, List.getElem?_append_right (Nat.le_refl _), Nat.sub_self]; rfl
theorem j1_eq {t : List Int} (m : Int) (ht : t.length ≤ 200) : tillerlaw10_GreedyOver.j1 1 t m false = some true := by
  unfold tillerlaw10_GreedyOver.j1
  show (if false = true then _ else _) = _
  rw [if_neg (by decide)]
  show (if true = true then (if t.length < 17592186044416 then ((greedy_Over.f (t ++ [0]) m).bind _) else none) else some false) = _
  rw [if_pos rfl, if_pos (by omega), over_eq m (by rw [List.length_append]; show t.length + 1 ≤ 1000; omega), ov_last (by rw [List.length_append]; show ((t.length + 1 : Nat) : Int) > 0; omega) (rd_last t)]
  rw [Option.bind_some, if_pos rfl]
  by_cases h : (t.length : Int) > 0
  · rw [if_pos h]
  · rw [if_neg h, over_eq 0 (by decide), ov_len (by decide)]; rfl
theorem j0_eq {t : List Int} (m less x : Int) (ht : t.length ≤ 200) : tillerlaw10_GreedyOver.j0 2 t m less x (ov t m) false = some true := by
  unfold tillerlaw10_GreedyOver.j0
  show (if false = true then _ else if (t.length : Int) ≥ m then (if ov t m = true then _ else _) else _) = _
  rw [if_neg (by decide)]
  by_cases h : (t.length : Int) ≥ m
  · rw [if_pos h, ov_len h, if_pos rfl]
    have hx : ov (t ++ [x]) m = true := ov_len (by rw [List.length_append]; show ((t.length + 1 : Nat) : Int) ≥ m; omega)
    by_cases hl : less ≤ m
    · rw [if_pos hl, over_eq less (by omega), ov_len (show (t.length : Int) ≥ less by omega)]
      rw [Option.bind_some, if_pos rfl, if_pos (by omega), over_eq m (by rw [List.length_append]; show t.length + 1 ≤ 1000; omega), hx]
      exact j1_eq m ht
    · rw [if_neg hl, if_pos (by omega), over_eq m (by rw [List.length_append]; show t.length + 1 ≤ 1000; omega), hx]
      exact j1_eq m ht
  · rw [if_neg h]
    exact j1_eq m ht
theorem GreedyOver : tillerlaw10_GreedyOver.Pure := by
  intro l m less x _ _ _ _ _ _
  refine ⟨2, ?_⟩
  unfold tillerlaw10_GreedyOver.f
  rw [few_eq]
  have ht : (l.take 200).length ≤ 200 := by rw [List.length_take]; omega
  generalize l.take 200 = t at *
  show ((greedy_Over.f t m).bind _) = _
  rw [over_eq m (by omega)]
  show (if less ≤ m then _ else _) = _
  have hj := j0_eq (t := t) m less x ht
  by_cases h1 : less ≤ m
  · rw [if_pos h1]
    by_cases h2 : ov t m = true
    · rw [if_pos h2]
      by_cases h3 : (t.length : Int) > 0
      · rw [if_pos h3, wrap_small (by omega), if_pos (by omega), if_pos (by omega)]
        by_cases h4 : rd t ((t.length : Int) - 1) = 0
        · rw [if_pos h4, over_eq less (by omega), ov_last h3 h4]
          exact hj
        · rw [if_neg h4]; exact hj
      · rw [if_neg h3]; exact hj
    · rw [if_neg h2]; exact hj
  · rw [if_neg h1]; exact hj
end Go.Proofs.Ytjihjjbieeofdaa.Pure
