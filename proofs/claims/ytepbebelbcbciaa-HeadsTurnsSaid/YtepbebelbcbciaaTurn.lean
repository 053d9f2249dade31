/- Keys and values that change places together: attention stays. Conditions: the bounds that each lemma names. -/
import Derived.Test.YtepbebelbcbciaaCurve
import Derived.Test.YtepbebelbcbciaaEv
import Derived.Test.YtepbebelbcbciaaHeads
import Derived.Test.YtepbebelbcbciaaHeads2
import Derived.Test.YtepbebelbcbciaaNum
import Derived.Test.YtepbebelbcbciaaSoft
import Derived.Test.YtepbebelbcbciaaSoft2
import Derived.Test.YtepbebelbcbciaaSoft3
namespace Go.Proofs.Ytepbebelbcbciaa.Q
open Go.RowKit Go.Proofs.YtepbebelbcbciaaW.PrintWords Go.Proofs.YtepbebelbcbciaaW.PrintLast
set_option linter.unusedVariables false
set_option linter.unusedSimpArgs false

theorem sum_perm {l m : List Int} (h : l.Perm m) : l.sum = m.sum := by
  induction h with
  | nil => rfl
  | cons x _ ih => simp [ih]
  | swap x y l => simp; omega
  | trans _ _ a b => rw [a, b]
theorem grow_plain : ∀ (l : List Int) (z : Int), l.length ≤ 1000 → (∀ x ∈ l, -281474976710656 ≤ x ∧ x ≤ 281474976710656) → -281474976710656 * (1000 - l.length) ≤ z → z ≤ 281474976710656 * (1000 - l.length) → l.foldl sGrow z = z + l.sum := by
  intro l
  induction l with
  | nil => intro z _ _ _ _; simp
  | cons a t ih =>
    intro z hl hx hz1 hz2
    have ha := hx a List.mem_cons_self
    rw [List.length_cons] at hl hz1 hz2
    have g : sGrow z a = z + a := by unfold sGrow; (repeat' split) <;> omega
    rw [List.foldl_cons, g, ih (z + a) (by omega) (fun x hx' => hx x (List.mem_cons_of_mem _ hx')) (by omega) (by omega), List.sum_cons]
    omega
theorem sSum_plain {l : List Int} (hl : l.length ≤ 1000) (hx : ∀ x ∈ l, -281474976710656 ≤ x ∧ x ≤ 281474976710656) : sSum l = l.sum := by
  unfold sSum
  rw [grow_plain l 0 hl hx (by omega) (by omega), Int.zero_add]
theorem sTop_perm {l m : List Int} (h : l.Perm m) (hn : l ≠ []) : sTop l = sTop m := by
  have hm : m ≠ [] := fun e => hn (by rw [e] at h; exact h.eq_nil)
  exact sTop_eq (h.mem_iff.2 (sTop_mem hm)) (fun x hx => sTop_ge (h.mem_iff.1 hx))
/-- What a pair of a key and a value adds at a place. -/
noncomputable def sTerm (q : List Int) (a s j : Nat) (T S : Int) (p : List Int × List Int) : Int := sPow (sSat (sScore (sPart a s q) (sPart a s p.1) - T)) * 65536 / S * rd p.2 j
theorem map_fst {β : Type} (g : List Int → β) (ks vs : List (List Int)) (hl : ks.length = vs.length) : ks.map g = (ks.zip vs).map fun p => g p.1 := by
  have h := List.map_fst_zip (l₁ := ks) (l₂ := vs) (by omega)
  conv => lhs; rw [← h]
  rw [List.map_map]
  rfl
theorem sProd_terms (q : List Int) (ks vs : List (List Int)) (a s j : Nat) :
    sProd (sHw q ks a s) (sCol vs j) = (ks.zip vs).map (sTerm q a s j (sTop (ks.map fun r => sScore (sPart a s q) (sPart a s r))) (sPs (ks.map fun r => sScore (sPart a s q) (sPart a s r))).sum) := by
  unfold sProd sHw sCol sW
  generalize hS : (sPs (ks.map fun r => sScore (sPart a s q) (sPart a s r))).sum = S
  unfold sPs
  generalize sTop (ks.map fun r => sScore (sPart a s q) (sPart a s r)) = T
  rw [List.map_map, List.map_map, List.zipWith_map, List.zip, List.map_zipWith]
  rfl
theorem sAtt_perm {q : List Int} {ks vs ks' vs' : List (List Int)} (hn : ks ≠ []) (hl : ks.length = vs.length) (hl' : ks'.length = vs'.length) (h128 : ks.length ≤ 128) (wv : ∀ r ∈ vs, ∀ x ∈ r, I32 x) (h : (ks.zip vs).Perm (ks'.zip vs')) (s j : Nat) :
    sAtt q ks vs s j = sAtt q ks' vs' s j := by
  unfold sAtt
  generalize j - j % s = a
  have hz : (ks.zip vs).length = ks.length := by rw [List.length_zip]; omega
  have hz' : (ks'.zip vs').length = ks'.length := by rw [List.length_zip]; omega
  have hlen : ks'.length = ks.length := by rw [← hz, ← hz', h.length_eq]
  have hsc : (ks.map fun r => sScore (sPart a s q) (sPart a s r)).Perm (ks'.map fun r => sScore (sPart a s q) (sPart a s r)) := by
    rw [map_fst _ ks vs hl, map_fst _ ks' vs' hl']
    exact h.map _
  have hscn : (ks.map fun r => sScore (sPart a s q) (sPart a s r)) ≠ [] := by simpa using hn
  have hT := sTop_perm hsc hscn
  have hS : (sPs (ks.map fun r => sScore (sPart a s q) (sPart a s r))).sum = (sPs (ks'.map fun r => sScore (sPart a s q) (sPart a s r))).sum := by
    unfold sPs
    rw [hT]
    exact sum_perm (hsc.map _)
  have hp := (sPs_sum hscn).1
  unfold sDot
  rw [sProd_terms, sProd_terms, ← hT, ← hS]
  generalize sTop (ks.map fun r => sScore (sPart a s q) (sPart a s r)) = T at *
  generalize (sPs (ks.map fun r => sScore (sPart a s q) (sPart a s r))).sum = S at *
  have hm := h.map (sTerm q a s j T S)
  have hb : ∀ x ∈ (ks.zip vs).map (sTerm q a s j T S), -281474976710656 ≤ x ∧ x ≤ 281474976710656 := by
    intro x hx
    obtain ⟨p, hpm, rfl⟩ := List.mem_map.1 hx
    have hv := i32_rd (wv p.2 (List.of_mem_zip hpm).2) (j : Int)
    have h1 := hv.1
    have h2 := hv.2
    have hw := sPow_bounds (sSat (sScore (sPart a s q) (sPart a s p.1) - T))
    have hn0 := (weight_num hw.1 hw.2 hp).2
    unfold sTerm
    generalize sPow (sSat (sScore (sPart a s q) (sPart a s p.1) - T)) * 65536 / S = u at *
    have m1 : u * (-2147483648) ≤ u * rd p.2 j := Int.mul_le_mul_of_nonneg_left h1 hn0.1
    have m2 : u * rd p.2 j ≤ u * 2147483647 := Int.mul_le_mul_of_nonneg_left h2 hn0.1
    omega
  rw [sSum_plain (by rw [List.length_map]; omega) hb, sSum_plain (by rw [List.length_map]; omega) (fun x hx => hb x (hm.mem_iff.2 hx)), sum_perm hm]
theorem zip_set {α β : Type} : ∀ (ks : List α) (vs : List β) (i : Nat) (a : α) (b : β), (ks.set i a).zip (vs.set i b) = (ks.zip vs).set i (a, b)
  | [], _, _, _, _ => by simp
  | _ :: _, [], i, _, _ => by cases i <;> simp
  | _ :: _, _ :: _, 0, _, _ => rfl
  | _ :: ks, _ :: vs, i + 1, a, b => by simp [zip_set ks vs i a b]
theorem zip_swap {ks vs : List (List Int)} (hl : ks.length = vs.length) (i j : Nat) (hi : i < ks.length) (hj : j < ks.length) :
    (((ks.set i (ks.getD j [])).set j (ks.getD i [])).zip ((vs.set i (vs.getD j [])).set j (vs.getD i []))).Perm (ks.zip vs) := by
  have hi' : i < (ks.zip vs).length := by rw [List.length_zip]; omega
  have hj' : j < (ks.zip vs).length := by rw [List.length_zip]; omega
  rw [zip_set, zip_set]
  have e : ∀ m (hm : m < (ks.zip vs).length), (ks.getD m [], vs.getD m []) = (ks.zip vs)[m] := by
    intro m hm
    rw [List.length_zip] at hm
    rw [List.getElem_zip, List.getD_eq_getElem?_getD, List.getD_eq_getElem?_getD, List.getElem?_eq_getElem (by omega), List.getElem?_eq_getElem (by omega)]
    rfl
  rw [e j hj', e i hi']
  exact List.set_set_perm hi' hj'
end Go.Proofs.Ytepbebelbcbciaa.Q
