/- Rows of fixed numbers: the greatest one, weights, means, norms, mixtures: what the program and the document come to. Conditions: the bounds that each lemma names. -/
import Derived.Test.YtepbebelbcbciaaQx1
import Derived.Test.YtepbebelbcbciaaQx3
import Derived.Test.YtepbebelbcbciaaQx4
import Derived.Test.YtepbebelbcbciaaQx7
import Derived.Test.YtepbebelbcbciaaCurve
import Derived.Test.YtepbebelbcbciaaEv
import Derived.Test.YtepbebelbcbciaaNum
namespace Go.Proofs.Ytepbebelbcbciaa.Q
open Go.RowKit Go.Proofs.YtepbebelbcbciaaW.PrintWords Go.Proofs.YtepbebelbcbciaaW.PrintLast
set_option linter.unusedVariables false
set_option linter.unusedSimpArgs false

theorem few_eq (l : List Int) (n : Nat) (h : l.length * 4 ≤ 140737488351232) : tillerlaw03_Few.f l (n : Int) = some (l.take n) := by
  unfold tillerlaw03_Few.f
  by_cases c : (l.length : Int) > (n : Int)
  · rw [if_pos c, if_pos (by omega), if_pos (by omega)]
    simp only [Option.bind_some, List.length_nil, List.nil_append, Int.toNat_natCast]
    rw [if_pos (by rw [List.length_take]; omega)]
  · rw [if_neg c]
    simp only [Option.bind_some, List.length_nil, List.nil_append]
    rw [if_pos (by omega), List.take_of_length_le (by omega)]
theorem foldl_next {α β : Type} (l : List α) (g : β → α → β) (z : β) (i : Nat) (h : i < l.length) : (l.take (i + 1)).foldl g z = g ((l.take i).foldl g z) l[i] := by
  rw [take_next l i h, List.foldl_append]
  rfl
theorem map_next {α β : Type} (l : List α) (f : α → β) (i : Nat) (h : i < l.length) : (l.take (i + 1)).map f = (l.take i).map f ++ [f l[i]] := by
  rw [take_next l i h, List.map_append]
  rfl

/-! the greatest one -/
def sTop (l : List Int) : Int := l.foldl mx (rd l 0)
theorem mx_ge (a b : Int) : a ≤ mx a b ∧ b ≤ mx a b := by unfold mx; split <;> omega
theorem mx_or (a b : Int) : mx a b = a ∨ mx a b = b := by unfold mx; split <;> simp
theorem foldl_mx (l : List Int) : ∀ z : Int, z ≤ l.foldl mx z ∧ (∀ x ∈ l, x ≤ l.foldl mx z) ∧ (l.foldl mx z = z ∨ l.foldl mx z ∈ l) := by
  induction l with
  | nil => intro z; exact ⟨Int.le_refl _, by simp, .inl rfl⟩
  | cons a t ih =>
    intro z
    obtain ⟨h1, h2, h3⟩ := ih (mx z a)
    have hm := mx_ge z a
    refine ⟨by simp only [List.foldl_cons]; omega, ?_, ?_⟩
    · intro x hx
      simp only [List.foldl_cons]
      rcases List.mem_cons.1 hx with rfl | hx
      · omega
      · exact h2 x hx
    · simp only [List.foldl_cons]
      rcases h3 with h3 | h3
      · rcases mx_or z a with h4 | h4
        · exact .inl (by rw [h3, h4])
        · exact .inr (by rw [h3, h4]; exact List.mem_cons_self)
      · exact .inr (List.mem_cons_of_mem _ h3)
theorem sTop_ge {l : List Int} {x : Int} (h : x ∈ l) : x ≤ sTop l := (foldl_mx l _).2.1 x h
theorem sTop_mem {l : List Int} (h : l ≠ []) : sTop l ∈ l := by
  rcases (foldl_mx l (rd l 0)).2.2 with h1 | h1
  · cases l with
    | nil => exact absurd rfl h
    | cons a t =>
      have : sTop (a :: t) = a := h1
      rw [this]
      exact List.mem_cons_self
  · exact h1
theorem sTop_eq {l : List Int} {m : Int} (h1 : m ∈ l) (h2 : ∀ x ∈ l, x ≤ m) : sTop l = m := by
  have hne : l ≠ [] := fun e => by rw [e] at h1; cases h1
  have a := h2 _ (sTop_mem hne)
  have b := sTop_ge h1
  omega
theorem max_ev {l : List Int} (h0 : l ≠ []) (hl : l.length ≤ 9223372036854775806) : Ev (fun k => api_Num.f k l) (sTop l) := by
  have hp : 0 < l.length := List.length_pos_iff.2 h0
  unfold api_Num.f
  refine ev_neg (by omega) (ev_pos (by omega) ?_)
  have key := ev_loop l.length (fun k i (s : Int) => api_Num.l0 k l s (i : Int)) (fun i => (l.take i).foldl mx (rd l 0)) (sTop l)
    (fun i hi ih => by
      refine Ev.step (fun k => api_Num.l0.eq_2 ..) (ev_pos (by omega) (ev_pos (by omega) ?_))
      rw [rd_nat l i hi, wrap_next hi (by omega)]
      have ih' := ih
      simp only [foldl_next l mx _ i hi] at ih'
      exact ih')
    (by
      refine Ev.step (fun k => api_Num.l0.eq_2 ..) (ev_neg (by omega) ?_)
      rw [take_all]
      exact Ev.now _) 1 hp
  have e : (l.take 1).foldl mx (rd l 0) = rd l 0 := by
    cases l with
    | nil => exact absurd rfl h0
    | cons a t =>
      show mx a a = a
      unfold mx
      split <;> rfl
  simp only [e] at key
  exact key
/-- The first place of the greatest one among the first n; -1: there is none. -/
def sArg (l : List Int) : Nat → Int
  | 0 => -1
  | n + 1 => if sArg l n < 0 then (n : Int) else if rd l n > rd l (sArg l n) then (n : Int) else sArg l n
theorem sArg_range (l : List Int) : ∀ n, n = 0 ∧ sArg l n = -1 ∨ 0 < n ∧ 0 ≤ sArg l n ∧ sArg l n < n := by
  intro n
  induction n with
  | zero => exact .inl ⟨rfl, rfl⟩
  | succ n ih =>
    right
    unfold sArg
    rcases ih with ⟨rfl, h⟩ | ⟨h1, h2, h3⟩
    · rw [h, if_pos (by omega)]
      omega
    · rw [if_neg (by omega)]
      split <;> omega
theorem sArg_best (l : List Int) : ∀ n, 0 < n → (∀ j : Nat, j < n → rd l j ≤ rd l (sArg l n)) ∧ ∀ j : Nat, (j : Int) < sArg l n → rd l j < rd l (sArg l n) := by
  intro n
  induction n with
  | zero => intro h; omega
  | succ n ih =>
    intro _
    rcases sArg_range l n with ⟨rfl, h⟩ | ⟨h1, h2, h3⟩
    · have e : sArg l (0 + 1) = ((0 : Nat) : Int) := by unfold sArg; rw [h, if_pos (by omega)]
      rw [e]
      refine ⟨fun j hj => ?_, fun j hj => by omega⟩
      have : j = 0 := by omega
      rw [this]
      exact Int.le_refl _
    · obtain ⟨a, b⟩ := ih h1
      by_cases c : rd l n > rd l (sArg l n)
      · have e : sArg l (n + 1) = (n : Int) := by conv => lhs; unfold sArg
                                                  rw [if_neg (by omega), if_pos c]
        rw [e]
        refine ⟨fun j hj => ?_, fun j hj => ?_⟩
        · by_cases hjn : j = n
          · rw [hjn]
            exact Int.le_refl _
          · have := a j (by omega)
            omega
        · have := a j (by omega)
          omega
      · have e : sArg l (n + 1) = sArg l n := by conv => lhs; unfold sArg
                                                 rw [if_neg (by omega), if_neg c]
        rw [e]
        refine ⟨fun j hj => ?_, b⟩
        by_cases hjn : j = n
        · rw [hjn]
          omega
        · exact a j (by omega)
theorem rd_mem {l : List Int} {i : Int} (h0 : 0 ≤ i) (h1 : i < l.length) : rd l i ∈ l := by
  obtain ⟨n, rfl⟩ := Int.eq_ofNat_of_zero_le h0
  rw [rd_nat l n (by omega)]
  exact List.getElem_mem _
theorem mem_rd {l : List Int} {x : Int} (h : x ∈ l) : ∃ j : Nat, j < l.length ∧ rd l j = x := by
  obtain ⟨j, hj, e⟩ := List.mem_iff_getElem.1 h
  exact ⟨j, hj, by rw [rd_nat l j hj, e]⟩
theorem rd_arg {l : List Int} (h : l ≠ []) : rd l (sArg l l.length) = sTop l := by
  have hp : 0 < l.length := List.length_pos_iff.2 h
  have hr := sArg_range l l.length
  have hb := (sArg_best l l.length hp).1
  refine (sTop_eq (rd_mem (by omega) (by omega)) fun x hx => ?_).symm
  obtain ⟨j, hj, rfl⟩ := mem_rd hx
  exact hb j hj

/-! two rows -/
theorem same_ev (a b : List Int) (h : a = b) (hl : a.length ≤ 9223372036854775806) : Ev (fun k => tillerref03_Same.f k a b) true := by
  subst h
  unfold tillerref03_Same.f
  refine ev_pos rfl ?_
  exact ev_loop a.length (fun k i (_ : Unit) => tillerref03_Same.l0 k a a (a.length : Int) (i : Int)) (fun _ => ()) true
    (fun i hi ih => by
      refine Ev.step (fun k => tillerref03_Same.l0.eq_2 ..) (ev_pos (by omega) (ev_pos (by omega) (ev_pos (by omega) (ev_pos (by omega) (ev_pos rfl ?_)))))
      rw [wrap_next hi (by omega)]
      exact ih)
    (Ev.step (fun k => tillerref03_Same.l0.eq_2 ..) (ev_neg (by omega) (Ev.now _))) 0 (by omega)

/-! weights -/
def sPs (l : List Int) : List Int := l.map fun x => sPow (sSat (x - sTop l))
def sW (l : List Int) : List Int := (sPs l).map fun p => p * 65536 / (sPs l).sum
theorem sum_next (l : List Int) (i : Nat) (h : i < l.length) : (l.take (i + 1)).sum = (l.take i).sum + l[i] := by
  rw [take_next l i h, List.sum_append]
  simp
theorem sum_bounds (l : List Int) (h : ∀ x ∈ l, 0 ≤ x ∧ x ≤ 65536) : 0 ≤ l.sum ∧ l.sum ≤ 65536 * l.length := by
  induction l with
  | nil => simp
  | cons a t ih =>
    have h1 := h a List.mem_cons_self
    have h2 := ih (fun x hx => h x (List.mem_cons_of_mem _ hx))
    simp only [List.sum_cons, List.length_cons]
    omega
theorem sum_ge_mem (l : List Int) (h : ∀ x ∈ l, 0 ≤ x ∧ x ≤ 65536) {x : Int} (hx : x ∈ l) : x ≤ l.sum := by
  induction l with
  | nil => cases hx
  | cons a t ih =>
    have h1 := h a List.mem_cons_self
    have h2 := sum_bounds t (fun x hx => h x (List.mem_cons_of_mem _ hx))
    simp only [List.sum_cons]
    rcases List.mem_cons.1 hx with rfl | hx
    · omega
    · have := ih (fun x hx => h x (List.mem_cons_of_mem _ hx)) hx
      omega
theorem sPs_bounds (l : List Int) : ∀ x ∈ sPs l, 0 ≤ x ∧ x ≤ 65536 := by
  intro x hx
  obtain ⟨y, _, rfl⟩ := List.mem_map.1 hx
  exact sPow_bounds _
theorem sPs_length (l : List Int) : (sPs l).length = l.length := List.length_map _
theorem sPs_top {l : List Int} (h : l ≠ []) : 65536 ∈ sPs l := by
  refine List.mem_map.2 ⟨sTop l, sTop_mem h, ?_⟩
  rw [Int.sub_self]
  exact sPow_zero
theorem sPs_sum {l : List Int} (h : l ≠ []) : 65536 ≤ (sPs l).sum ∧ (sPs l).sum ≤ 65536 * l.length := by
  have h1 := sum_ge_mem _ (sPs_bounds l) (sPs_top h)
  have h2 := (sum_bounds _ (sPs_bounds l)).2
  rw [sPs_length] at h2
  exact ⟨h1, h2⟩
theorem sW_length (l : List Int) : (sW l).length = l.length := by unfold sW; rw [List.length_map, sPs_length]
theorem weight_num {p s : Int} (h0 : 0 ≤ p) (h1 : p ≤ 65536) (hs : 65536 ≤ s) : wrap32 (wrap64 (Int.tdiv (wrap64 (wrap64 p * 65536)) s)) = p * 65536 / s ∧ 0 ≤ p * 65536 / s ∧ p * 65536 / s ≤ 65536 := by
  have d0 : 0 ≤ p * 65536 / s := Int.ediv_nonneg (by omega) (by omega)
  have d1 : p * 65536 / s ≤ p * 65536 := Int.ediv_le_self _ (by omega)
  have d2 : p * 65536 / s ≤ 65536 := by
    have : p * 65536 / s ≤ (65536 * s) / s := Int.ediv_le_ediv (by omega) (by omega)
    rwa [Int.mul_ediv_cancel _ (by omega)] at this
  rw [wrap64_id (x := p) (by omega) (by omega), wrap64_id (x := p * 65536) (by omega) (by omega), tdiv_pos (by omega), wrap64_id (x := p * 65536 / s) (by omega) (by omega), wrap32_id (by omega) (by omega)]
  exact ⟨rfl, d0, d2⟩
theorem sW_bounds {l : List Int} (h : l ≠ []) : ∀ x ∈ sW l, 0 ≤ x ∧ x ≤ 65536 := by
  intro x hx
  obtain ⟨p, hp, rfl⟩ := List.mem_map.1 hx
  have hb := sPs_bounds l p hp
  exact (weight_num hb.1 hb.2 (sPs_sum h).1).2
theorem set_mid {α : Type} (a b : List α) (x y : α) : (a ++ x :: b).set a.length y = a ++ y :: b := by
  rw [List.set_append_right _ _ (Nat.le_refl _), Nat.sub_self]
  rfl
theorem i32_top {l : List Int} (h : l ≠ []) (hw : ∀ x ∈ l, I32 x) : I32 (sTop l) := hw _ (sTop_mem h)
theorem weights_ev {l : List Int} (h0 : l ≠ []) (hl : l.length ≤ 4096) (hw : ∀ x ∈ l, I32 x) : Ev (fun k => soft_Weights.f k l) (sW l, 0) := by
  have hp : 0 < l.length := List.length_pos_iff.2 h0
  have hs := sPs_sum h0
  unfold soft_Weights.f
  refine ev_neg (by omega) (ev_neg (by omega) (Ev.bind (max_ev h0 (by omega)) ?_))
  have l1 : Ev (fun k => soft_Weights.l1 k (sPs l) (sPs l).sum ((sPs l).length : Int) 0) (sW l, 0) :=
    ev_loop (sPs l).length (fun k i (s : List Int) => soft_Weights.l1 k s (sPs l).sum ((sPs l).length : Int) (i : Int))
      (fun i => ((sPs l).take i).map (fun p => p * 65536 / (sPs l).sum) ++ (sPs l).drop i) (sW l, 0)
      (fun i hi ih => by
        have hd : (sPs l).drop i = (sPs l)[i] :: (sPs l).drop (i + 1) := List.drop_eq_getElem_cons hi
        have hlen : (((sPs l).take i).map (fun p => p * 65536 / (sPs l).sum)).length = i := by rw [List.length_map, List.length_take]; omega
        have hb := sPs_bounds l _ (List.getElem_mem hi)
        have hn := weight_num hb.1 hb.2 hs.1
        simp only [map_next _ _ i hi] at ih
        rw [hd]
        generalize hA : ((sPs l).take i).map (fun p => p * 65536 / (sPs l).sum) = a at *
        have hlen2 : (a ++ (sPs l)[i] :: (sPs l).drop (i + 1)).length = (sPs l).length := by rw [List.length_append, List.length_cons, List.length_drop]; omega
        refine Ev.step (fun k => soft_Weights.l1.eq_2 ..) (ev_pos (by omega) (ev_pos (by omega) (ev_pos (by omega) (ev_neg (by omega) ?_))))
        have hr : rd (a ++ (sPs l)[i] :: (sPs l).drop (i + 1)) (i : Int) = (sPs l)[i] := by
          rw [rd_nat _ i (by omega), List.getElem_append_right (by omega)]
          simp [hlen]
        rw [hr, wrap_next hi (by rw [sPs_length]; omega), Int.toNat_natCast, hn.1]
        have hset := set_mid a ((sPs l).drop (i + 1)) (sPs l)[i] ((sPs l)[i] * 65536 / (sPs l).sum)
        rw [hlen] at hset
        rw [hset]
        rw [List.append_assoc] at ih
        exact ih)
      (by
        rw [take_all, List.drop_length, List.append_nil]
        have hlen2 : ((sPs l).map fun p => p * 65536 / (sPs l).sum).length = (sPs l).length := List.length_map _
        exact Ev.step (fun k => soft_Weights.l1.eq_2 ..) (ev_neg (by omega) (Ev.now _))) 0 (by omega)
  exact ev_loop l.length (fun k i (s : List Int × Int) => soft_Weights.l0 k (sTop l) s.1 s.2 l (l.length : Int) (i : Int))
    (fun i => ((l.take i).map (fun x => sPow (sSat (x - sTop l))), ((l.take i).map (fun x => sPow (sSat (x - sTop l)))).sum)) (sW l, 0)
    (fun i hi ih => by
      have hx := hw _ (List.getElem_mem hi)
      have hb := sum_bounds ((l.take i).map (fun x => sPow (sSat (x - sTop l)))) (fun x hx => by obtain ⟨y, _, rfl⟩ := List.mem_map.1 hx; exact sPow_bounds _)
      have hlen : ((l.take i).map (fun x => sPow (sSat (x - sTop l)))).length = i := by rw [List.length_map, List.length_take]; omega
      rw [hlen] at hb
      simp only [map_next _ _ i hi, List.sum_append, List.sum_cons, List.sum_nil, Int.add_zero] at ih
      have hp := sPow_bounds (sSat (l[i] - sTop l))
      refine Ev.step (fun k => soft_Weights.l0.eq_2 ..) (ev_pos (by omega) (ev_pos (by omega) (ev_pos (by omega) ?_)))
      rw [rd_nat l i hi]
      refine ev_some (fix_Sub_eq hx (i32_top h0 hw)) (ev_some (curve_Pow_eq (i32_sSat _)) (ev_pos (by simp only [hlen]; omega) ?_))
      rw [wrap_next hi (by omega), wrap64_id (x := sPow (sSat (l[i] - sTop l))) (by omega) (by omega), wrap64_id (by omega) (by omega)]
      exact ih)
    (by
      refine Ev.step (fun k => soft_Weights.l0.eq_2 ..) (ev_neg (by omega) ?_)
      simp only [take_all]
      exact l1) 0 (by omega)
end Go.Proofs.Ytepbebelbcbciaa.Q
