/- Means of squares, norms, and mixtures of rows: what the program and the document come to. Conditions: the bounds that each lemma names. -/
import Derived.Test.YtiooeclnjhncmaaQx2
import Derived.Test.YtiooeclnjhncmaaQx4
import Derived.Test.YtiooeclnjhncmaaEv
import Derived.Test.YtiooeclnjhncmaaNum
import Derived.Test.YtiooeclnjhncmaaRoot
import Derived.Test.YtiooeclnjhncmaaSoft
namespace Go.Proofs.Ytiooeclnjhncmaa.Q
open Go.RowKit Go.Proofs.YtiooeclnjhncmaaW.PrintWords Go.Proofs.YtiooeclnjhncmaaW.PrintLast
set_option linter.unusedVariables false
set_option linter.unusedSimpArgs false

/-! sums of products -/
def sSum (l : List Int) : Int := l.foldl sGrow 0
theorem sSum_big (l : List Int) : Big (sSum l) := by
  have key : ∀ (l : List Int) (z : Int), Big z → Big (l.foldl sGrow z) := by
    intro l
    induction l with
    | nil => intro z h; exact h
    | cons a t ih => intro z _; exact ih _ (sGrow_big z a)
  exact key l 0 (by unfold Big; omega)
theorem sSum_next (l : List Int) (i : Nat) (h : i < l.length) : sSum (l.take (i + 1)) = sGrow (sSum (l.take i)) l[i] := foldl_next l sGrow 0 i h
def sProd (a b : List Int) : List Int := List.zipWith (· * ·) a b
def sDot (a b : List Int) : Int := sSat (sRnd (sSum (sProd a b)))
theorem sProd_length (a b : List Int) (h : a.length = b.length) : (sProd a b).length = a.length := by unfold sProd; rw [List.length_zipWith]; omega
theorem sProd_get (a b : List Int) (i : Nat) (h : i < (sProd a b).length) (ha : i < a.length) (hb : i < b.length) : (sProd a b)[i] = a[i] * b[i] := List.getElem_zipWith
theorem i32_sDot (a b : List Int) : I32 (sDot a b) := i32_sSat _
/-! means of squares -/
def sSq (l : List Int) : Int := sSum (sProd l l)
def sMean (l : List Int) : Int := sSat (sSq l / l.length / 65536)
theorem sSum_nonneg (l : List Int) (h : ∀ x ∈ l, 0 ≤ x) : 0 ≤ sSum l := by
  have key : ∀ (l : List Int) (z : Int), 0 ≤ z → (∀ x ∈ l, 0 ≤ x) → 0 ≤ l.foldl sGrow z := by
    intro l
    induction l with
    | nil => intro z h _; exact h
    | cons a t ih =>
      intro z hz hx
      have h1 := hx a List.mem_cons_self
      refine ih _ ?_ (fun x hx' => hx x (List.mem_cons_of_mem _ hx'))
      unfold sGrow
      split <;> (try split) <;> omega
  exact key l 0 (Int.le_refl _) h
theorem sSq_nonneg (l : List Int) : 0 ≤ sSq l := by
  refine sSum_nonneg _ fun x hx => ?_
  obtain ⟨i, hi, rfl⟩ := List.mem_iff_getElem.1 hx
  have hi2 : i < l.length := by rwa [sProd_length l l rfl] at hi
  rw [sProd_get l l i hi hi2 hi2]
  rcases Int.le_total 0 l[i] with h | h
  · exact Int.mul_nonneg h h
  · exact Int.mul_nonneg_of_nonpos_of_nonpos h h
theorem mean_ev {l : List Int} (h0 : l ≠ []) (hl : l.length ≤ 4096) (hw : ∀ x ∈ l, I32 x) : Ev (fun k => soft_Mean.f k l) (sMean l, 0) := by
  have hp : 0 < l.length := List.length_pos_iff.2 h0
  have hlen := sProd_length l l rfl
  unfold soft_Mean.f
  refine ev_neg (by omega) (ev_neg (by omega) ?_)
  exact ev_loop l.length (fun k i (s : Int) => soft_Mean.l0 k l s l (l.length : Int) (i : Int)) (fun i => sSum ((sProd l l).take i)) (sMean l, 0)
    (fun i hi ih => by
      have xa := hw _ (List.getElem_mem hi)
      simp only [sSum_next _ i (show i < (sProd l l).length by omega), sProd_get l l i (by omega) hi hi] at ih
      refine Ev.step (fun k => soft_Mean.l0.eq_2 ..) (ev_pos (by omega) (ev_pos (by omega) (ev_pos (by omega) ?_)))
      rw [rd_nat l i hi, wrap_mul xa xa, wrap_next hi (by omega)]
      exact Ev.bind (vec_Grow_ev (sSum_big _) (big_mul xa xa)) ih)
    (by
      refine Ev.step (fun k => soft_Mean.l0.eq_2 ..) (ev_neg (by omega) (ev_neg (by omega) ?_))
      have hq : (sProd l l).take l.length = sProd l l := by rw [← hlen, take_all]
      rw [hq]
      have h1 : 0 ≤ sSum (sProd l l) := sSq_nonneg l
      have h2 := (sSum_big (sProd l l)).2
      have d0 : 0 ≤ sSum (sProd l l) / (l.length : Int) := Int.ediv_nonneg h1 (by omega)
      have d1 : sSum (sProd l l) / (l.length : Int) ≤ sSum (sProd l l) := Int.ediv_le_self _ h1
      rw [tdiv_pos h1, wrap64_id (by omega) (by omega)]
      exact ev_some (fix_Sat_eq _) (Ev.now _)) 0 (by omega)
/-! norms -/
noncomputable def sNorm (l g : List Int) : List Int := List.zipWith (fun x y => sMul (sMul x (sInv (sSat (sMean l + 1)))) y) l g
theorem sNorm_length (l g : List Int) (h : l.length = g.length) : (sNorm l g).length = l.length := by unfold sNorm; rw [List.length_zipWith]; omega
theorem i32_sMul (a b : Int) : I32 (sMul a b) := i32_sSat _
theorem sNorm_i32 (l g : List Int) : ∀ x ∈ sNorm l g, I32 x := by
  intro x hx
  obtain ⟨i, hi, rfl⟩ := List.mem_iff_getElem.1 hx
  have e : (sNorm l g)[i] = sMul (sMul (l[i]'(by unfold sNorm at hi; rw [List.length_zipWith] at hi; omega)) (sInv (sSat (sMean l + 1)))) (g[i]'(by unfold sNorm at hi; rw [List.length_zipWith] at hi; omega)) := List.getElem_zipWith
  rw [e]
  exact i32_sMul _ _
theorem i32_sMean (l : List Int) : I32 (sMean l) := i32_sSat _
theorem fix_Add_eq {a b : Int} (ha : I32 a) (hb : I32 b) : fix_Add.f a b = some (sSat (a + b)) := by
  unfold fix_Add.f
  have ha1 := ha.1
  have ha2 := ha.2
  have hb1 := hb.1
  have hb2 := hb.2
  rw [wrap_i32 ha, wrap_i32 hb, wrap64_id (by omega) (by omega), fix_Sat_eq]
  rfl
theorem i32_sInv {x : Int} (h : I32 x) : I32 (sInv x) := by have := sInv_i32 h; exact ⟨by omega, by omega⟩
theorem zip_next {α β γ : Type} (f : α → β → γ) (a : List α) (b : List β) (i : Nat) (ha : i < a.length) (hb : i < b.length) : (List.zipWith f a b).take (i + 1) = (List.zipWith f a b).take i ++ [f a[i] b[i]] := by
  rw [take_next _ i (by rw [List.length_zipWith]; omega), List.getElem_zipWith]
theorem zip_all {α β γ : Type} (f : α → β → γ) (a : List α) (b : List β) (h : a.length = b.length) : (List.zipWith f a b).take a.length = List.zipWith f a b := List.take_of_length_le (by rw [List.length_zipWith]; omega)
theorem norm_ev {l g : List Int} (h0 : l ≠ []) (hl : l.length ≤ 4096) (hg : l.length = g.length) (hw : ∀ x ∈ l, I32 x) (hwg : ∀ x ∈ g, I32 x) : Ev (fun k => soft_Norm.f k l g) (sNorm l g, 0) := by
  unfold soft_Norm.f
  refine Ev.bind (mean_ev h0 hl hw) (ev_pos rfl (ev_pos (by omega) ?_))
  refine ev_some (fix_Add_eq (i32_sMean l) ⟨by decide, by decide⟩) (Ev.bind (curve_Inverse_ev (i32_sSat _)) ?_)
  exact ev_loop l.length (fun k i (s : List Int) => soft_Norm.l0 k g (sInv (sSat (sMean l + 1))) s l (l.length : Int) (i : Int)) (fun i => (sNorm l g).take i) (sNorm l g, 0)
    (fun i hi ih => by
      have hi2 : i < g.length := by omega
      have xa := hw _ (List.getElem_mem hi)
      have xb := hwg _ (List.getElem_mem hi2)
      have hlen : ((sNorm l g).take i).length = i := by rw [List.length_take, sNorm_length l g hg]; omega
      have hn : (sNorm l g).take (i + 1) = (sNorm l g).take i ++ [sMul (sMul l[i] (sInv (sSat (sMean l + 1)))) g[i]] := zip_next _ l g i hi hi2
      simp only [hn] at ih
      refine Ev.step (fun k => soft_Norm.l0.eq_2 ..) (ev_pos (by omega) (ev_pos (by omega) (ev_pos (by omega) ?_)))
      rw [rd_nat l i hi, rd_nat g i hi2, wrap_next hi (by omega)]
      exact Ev.bind (fix_Mul_ev xa (i32_sInv (i32_sSat _))) (ev_pos (by omega) (Ev.bind (fix_Mul_ev (i32_sMul _ _) xb) (ev_pos (by omega) ih))))
    (by
      have hq : (sNorm l g).take l.length = sNorm l g := zip_all _ l g hg
      rw [hq]
      exact Ev.step (fun k => soft_Norm.l0.eq_2 ..) (ev_neg (by omega) (Ev.now _))) 0 (by omega)
end Go.Proofs.Ytiooeclnjhncmaa.Q
