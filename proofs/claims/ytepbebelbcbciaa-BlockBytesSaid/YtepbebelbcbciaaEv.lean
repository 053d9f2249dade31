/- Lemmas on functions with a number of rounds ('Ev': from some number on the answer is this one), and on lists that are read by whole numbers. No condition; plain lemmas. -/
import Derived.Test.YtepbebelbcbciaaWMore
namespace Go.Proofs.Ytepbebelbcbciaa.Q
open Go.RowKit Go.Proofs.YtepbebelbcbciaaW.PrintWords Go.Proofs.YtepbebelbcbciaaW.PrintLast
set_option linter.unusedVariables false
set_option linter.unusedSimpArgs false

/-- A loop, told by its states: each round leads from one to the next. -/
theorem ev_loop {σ R : Type} (n : Nat) (g : Nat → Nat → σ → Option R) (F : Nat → σ) (r : R)
    (hstep : ∀ i, i < n → Ev (fun k => g k (i + 1) (F (i + 1))) r → Ev (fun k => g k i (F i)) r)
    (hend : Ev (fun k => g k n (F n)) r) : ∀ i, i ≤ n → Ev (fun k => g k i (F i)) r := by
  intro i hi
  obtain ⟨d, hd⟩ : ∃ d, n = i + d := ⟨n - i, by omega⟩
  induction d generalizing i with
  | zero =>
    have : i = n := by omega
    subst this
    exact hend
  | succ d ih => exact hstep i (by omega) (ih (i + 1) (by omega) (by omega))
theorem ev_of_eq {R : Type} {g : Nat → Option R} {r : R} (h : ∀ k, g k = some r) : Ev g r := ⟨0, fun k _ => h k⟩
theorem ev_eq {R : Type} {g : Nat → Option R} {r r' : R} (h : Ev g r) (e : r = r') : Ev g r' := e ▸ h
/-- A call without rounds. -/
theorem ev_some {α β : Type} {x : Option α} {a : α} {f : Nat → α → Option β} {r : β} (h : x = some a) (k : Ev (fun n => f n a) r) : Ev (fun n => x.bind (f n)) r := by
  subst h
  exact k
theorem ev_if {R : Type} {c : Prop} [Decidable c] {a b : Nat → Option R} {r : R} (h1 : c → Ev a r) (h2 : ¬ c → Ev b r) : Ev (fun k => if c then a k else b k) r := by
  by_cases h : c
  · obtain ⟨K, hK⟩ := h1 h
    exact ⟨K, fun k hk => (if_pos h).trans (hK k hk)⟩
  · obtain ⟨K, hK⟩ := h2 h
    exact ⟨K, fun k hk => (if_neg h).trans (hK k hk)⟩
theorem ev_pos {R : Type} {c : Prop} [Decidable c] {a b : Nat → Option R} {r : R} (h : c) (h1 : Ev a r) : Ev (fun k => if c then a k else b k) r := ev_if (fun _ => h1) (fun n => absurd h n)
theorem ev_neg {R : Type} {c : Prop} [Decidable c] {a b : Nat → Option R} {r : R} (h : ¬ c) (h2 : Ev b r) : Ev (fun k => if c then a k else b k) r := ev_if (fun p => absurd p h) (fun _ => h2)
theorem wrap64_id {x : Int} (h0 : -9223372036854775808 ≤ x) (h1 : x ≤ 9223372036854775807) : wrap64 x = x := by unfold wrap64; omega
theorem wrap32_id {x : Int} (h0 : -2147483648 ≤ x) (h1 : x ≤ 2147483647) : wrap32 x = x := by unfold wrap32; omega
theorem u64_id {x : Int} (h0 : 0 ≤ x) (h1 : x ≤ 18446744073709551615) : IntKind.u64.wrap x = x := by rw [IntKind.wrap_u64]; omega
theorem wrap_next {i n : Nat} (h : i < n) (hn : n ≤ 9223372036854775807) : wrap64 ((i : Int) + 1) = ((i + 1 : Nat) : Int) := by unfold wrap64; omega
theorem rd_nat (l : List Int) (i : Nat) (h : i < l.length) : rd l (i : Int) = l[i] := by
  unfold rd
  simp [h]
/-- A number of 32 bits. -/
def I32 (x : Int) : Prop := -2147483648 ≤ x ∧ x ≤ 2147483647
theorem i32_of_wf {x : Int} (h : (Lit.int .i32 x).wf = true) : I32 x := by
  simp only [Lit.wf, Bool.and_eq_true, decide_eq_true_eq] at h
  exact h
theorem i64_of_wf {x : Int} (h : (Lit.int .i64 x).wf = true) : -9223372036854775808 ≤ x ∧ x ≤ 9223372036854775807 := by
  simp only [Lit.wf, Bool.and_eq_true, decide_eq_true_eq] at h
  exact h
theorem u64_of_wf {x : Int} (h : (Lit.int .u64 x).wf = true) : 0 ≤ x ∧ x ≤ 18446744073709551615 := by
  simp only [Lit.wf, Bool.and_eq_true, decide_eq_true_eq] at h
  exact h
theorem i32_rd {l : List Int} (h : ∀ x ∈ l, I32 x) (i : Int) : I32 (rd l i) := by
  unfold rd
  by_cases hi : i.toNat < l.length
  · rw [List.getD_eq_getElem?_getD, List.getElem?_eq_getElem hi]
    exact h _ (List.getElem_mem hi)
  · rw [List.getD_eq_getElem?_getD, List.getElem?_eq_none (by omega)]
    exact ⟨by decide, by decide⟩
theorem take_next {α : Type} (l : List α) (i : Nat) (h : i < l.length) : l.take (i + 1) = l.take i ++ [l[i]] := by
  rw [List.take_succ_eq_append_getElem h]
theorem take_all {α : Type} (l : List α) : l.take l.length = l := List.take_length
/-- The first place where something is not so. -/
theorem first_bad (n : Nat) (p : Nat → Prop) (h : ¬ ∀ i, i < n → p i) : ∃ j, j < n ∧ ¬ p j ∧ ∀ i, i < j → p i := by
  induction n with
  | zero => exact absurd (fun i hi => absurd hi (by omega)) h
  | succ n ih =>
    by_cases c : ∀ i, i < n → p i
    · refine ⟨n, by omega, fun hp => h fun i hi => ?_, c⟩
      by_cases e : i = n
      · exact e ▸ hp
      · exact c i (by omega)
    · obtain ⟨j, hj, h1, h2⟩ := ih c
      exact ⟨j, by omega, h1, h2⟩
end Go.Proofs.Ytepbebelbcbciaa.Q
