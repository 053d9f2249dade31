/- Means of squares, norms, and mixtures of rows: what the program and the document come to. Conditions: the bounds that each lemma names. -/
import Derived.Test.YtepbebelbcbciaaEv
import Derived.Test.YtepbebelbcbciaaNum
import Derived.Test.YtepbebelbcbciaaRoot
import Derived.Test.YtepbebelbcbciaaSoft
namespace Go.Proofs.Ytepbebelbcbciaa.Q
open Go.RowKit Go.Proofs.YtepbebelbcbciaaW.PrintWords Go.Proofs.YtepbebelbcbciaaW.PrintLast
set_option linter.unusedVariables false
set_option linter.unusedSimpArgs false

/-! sums of products -/
def sSum (l : List Int) : Int := l.foldl sGrow 0
theorem sSum_big (l : List Int) : Big (sSum l) := by
  have key : ∀ (l : List Int) (z : Int), Big z → Big (l.foldl sGrow z) := by
    intro l
    induction l with
    | nil => intro z h; exact h
    | cons a t ih => intro z _; exact ih _ (sGrow_big z a)
  exact key l 0 (by unfold Big; omega)
theorem sSum_next (l : List Int) (i : Nat) (h : i < l.length) : sSum (l.take (i + 1)) = sGrow (sSum (l.take i)) l[i] := foldl_next l sGrow 0 i h
def sProd (a b : List Int) : List Int := List.zipWith (· * ·) a b
def sDot (a b : List Int) : Int := sSat (sRnd (sSum (sProd a b)))
theorem sProd_length (a b : List Int) (h : a.length = b.length) : (sProd a b).length = a.length := by unfold sProd; rw [List.length_zipWith]; omega
theorem sProd_get (a b : List Int) (i : Nat) (h : i < (sProd a b).length) (ha : i < a.length) (hb : i < b.length) : (sProd a b)[i] = a[i] * b[i] := List.getElem_zipWith
theorem i32_sDot (a b : List Int) : I32 (sDot a b) := i32_sSat _
/-! means of squares -/
def sSq (l : List Int) : Int := sSum (sProd l l)
def sMean (l : List Int) : Int := sSat (sSq l / l.length / 65536)
theorem sSum_nonneg (l : List Int) (h : ∀ x ∈ l, 0 ≤ x) : 0 ≤ sSum l := by
  have key : ∀ (l : List Int) (z : Int), 0 ≤ z → (∀ x ∈ l, 0 ≤ x) → 0 ≤ l.foldl sGrow z := by
    intro l
    induction l with
    | nil => intro z h _; exact h
    | cons a t ih =>
      intro z hz hx
      have h1 := hx a List.mem_cons_self
      refine ih _ ?_ (fun x hx' => hx x (List.mem_cons_of_mem _ hx'))
      unfold sGrow
      split <;> (try split) <;> omega
  exact key l 0 (Int.le_refl _) h
theorem sSq_nonneg (l : List Int) : 0 ≤ sSq l := by
  refine sSum_nonneg _ fun x hx => ?_
  obtain ⟨i, hi, rfl⟩ := List.mem_iff_getElem.1 hx
  have hi2 : i < l.length := by rwa [sProd_length l l rfl] at hi
  rw [sProd_get l l i hi hi2 hi2]
  rcases Int.le_total 0 l[i] with h | h
  · exact Int.mul_nonneg h h
  · exact Int.mul_nonneg_of_nonpos_of_nonpos h h
/-! norms -/
noncomputable def sNorm (l g : List Int) : List Int := List.zipWith (fun x y => sMul (sMul x (sInv (sSat (sMean l + 1)))) y) l g
theorem sNorm_length (l g : List Int) (h : l.length = g.length) : (sNorm l g).length = l.length := by unfold sNorm; rw [List.length_zipWith]; omega
theorem i32_sMul (a b : Int) : I32 (sMul a b) := i32_sSat _
theorem sNorm_i32 (l g : List Int) : ∀ x ∈ sNorm l g, I32 x := by
  intro x hx
  obtain ⟨i, hi, rfl⟩ := List.mem_iff_getElem.1 hx
  have e : (sNorm l g)[i] = sMul (sMul (l[i]'(by unfold sNorm at hi; rw [List.length_zipWith] at hi; omega)) (sInv (sSat (sMean l + 1)))) (g[i]'(by unfold sNorm at hi; rw [List.length_zipWith] at hi; omega)) := List.getElem_zipWith
  rw [e]
  exact i32_sMul _ _
theorem i32_sMean (l : List Int) : I32 (sMean l) := i32_sSat _
theorem i32_sInv {x : Int} (h : I32 x) : I32 (sInv x) := by have := sInv_i32 h; exact ⟨by omega, by omega⟩
theorem zip_next {α β γ : Type} (f : α → β → γ) (a : List α) (b : List β) (i : Nat) (ha : i < a.length) (hb : i < b.length) : (List.zipWith f a b).take (i + 1) = (List.zipWith f a b).take i ++ [f a[i] b[i]] := by
  rw [take_next _ i (by rw [List.length_zipWith]; omega), List.getElem_zipWith]
theorem zip_all {α β γ : Type} (f : α → β → γ) (a : List α) (b : List β) (h : a.length = b.length) : (List.zipWith f a b).take a.length = List.zipWith f a b := List.take_of_length_le (by rw [List.length_zipWith]; omega)
end Go.Proofs.Ytepbebelbcbciaa.Q
