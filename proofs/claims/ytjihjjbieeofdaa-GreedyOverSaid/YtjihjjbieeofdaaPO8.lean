/- What functions of the program come to, on trees. No condition but those that the theorems name. -/
import Derived.Test.YtjihjjbieeofdaaPO7
namespace Go.Proofs.Ytjihjjbieeofdaa.T
set_option linter.unusedSimpArgs false
set_option linter.unusedVariables false
open Go
set_option linter.unusedVariables false
set_option maxHeartbeats 8000000
set_option maxRecDepth 100000
/-- Whether a row is nil need not be known. -/
theorem take_snoc {α : Type} {l : List α} {i : Nat} (d : α) (h : i < l.length) : l.take (i + 1) = l.take i ++ [l.getD i d] := by
  rw [List.take_add_one, List.getD_eq_getElem?_getD, List.getElem?_eq_getElem h]; rfl
theorem rw_nil {w : World} {F : Nat → Prop} {sz : Nat} {dp : Bool} {l : List AV} {v : Value} (h : RW w F (.sl none none sz dp l) v []) : ∃ b, (b = true → l = []) ∧ RW w F (.sl none (some b) sz dp l) v [] := by
  have h1 : Rp w F (.sl none none sz dp l) [v] [] := h
  cases h1 with
  | @fz A _ _ _ _ cap b off cs hc hm hn h0 hA hl hr hd hw =>
    refine ⟨A.isNone, fun e => ?_, ?_⟩
    · cases A with
      | none => exact (h0 rfl).1
      | some a => cases e
    · refine (Rp.fz (nil := some A.isNone) hc hm (fun x hx => ?_) h0 hA hl hr hd hw : Rp w F _ [.slice A l.length cap] [])
      cases hx
      cases A <;> simp
theorem impl_nil1 {P : Program} {f : Nat} {sz : Nat} {dp : Bool} {l : List AV} {r : AV} (h : ∀ b : Bool, (b = true → l = []) → Impl P f [.sl none (some b) sz dp l] r) : Impl P f [.sl none none sz dp l] r := by
  have h0 := (h false (fun e => by cases e)).f (fun e he l => by cases he; intro e'; cases e')
  refine headOk_impl rfl ⟨h0.fn, fun F w vs hs hv hF => ?_⟩
  have hs1 : vs.size = 1 := hs
  obtain ⟨b, hb1, hb2⟩ := rw_nil (hv 0 _ (vs[0]'(by omega)) rfl (Array.getElem?_eq_getElem (by omega)))
  refine ((h b hb1).f (fun e he l => by cases he; intro e'; cases e')).calls F w vs hs (fun j e v he hv2 => ?_) hF
  cases j with
  | zero =>
    cases he
    rw [Array.getElem?_eq_getElem (by omega)] at hv2
    cases hv2
    exact hb2
  | succ j => cases he
def eCl1 : Env := ⟨tbl, [], [], [], [(0, [0]), (1, [0, 4]), (2, [2]), (3, [2])]⟩
theorem clone1_ok {nl : Option Bool} {l : List Int} (hl : l.length ≤ 1000000) : Impl Try.prog 48 [.sl none nl 1 false (ints .i64 l)] (.sl (some 0) none 1 false (ints .i64 l)) := by
  have hb : ∀ b : Bool, (b = true → ints .i64 l = []) → Impl Try.prog 48 [.sl none (some b) 1 false (ints .i64 l)] (.sl (some 0) none 1 false (ints .i64 l)) := fun b hb => by
    cases b with
    | true =>
      rw [hb rfl]
      refine impl_of (fn := Try.f48) tbl_ok (by kernel_rfl) (by kernel_rfl) rfl ⟨by simp [Try.f48], by decide⟩ rfl fun W0 => ?_
      repeat' first
        | apply WP.seq
        | (apply WP.region (E := eCl1) mixed tbl_ok; conv => whnf)
        | (apply WP.cond; conv => whnf)
        | (apply WP.ret; conv => whnf)
        | (apply reg_and; (· kernel_rfl); conv => whnf)
        | (apply And.intro; (· first | with_reducible rfl | exact trivial | exact Or.inl ⟨rfl, rfl⟩ | exact Or.inr rfl | decide | omega | (apply Nat.le_of_ble_eq_true; rfl) | (dsimp only; omega) | (simp only [ints_len, gl_len, mp_len, List.length_cons, List.length_nil, List.length_drop, List.length_take]; omega)); conv => whnf)
        | (apply br_t; conv => whnf)
        | fail
      repeat' first
        | (apply Or.inr; apply And.intro; (· rfl); rfl)
        | fail
    | false =>
      refine impl_of (fn := Try.f48) tbl_ok (by kernel_rfl) (by kernel_rfl) rfl ⟨by simp [Try.f48], by decide⟩ rfl fun W0 => ?_
      repeat' first
        | (rw [List.nil_append]; conv => whnf)
        | apply WP.seq
        | (apply WP.region (E := eCl1) mixed tbl_ok; conv => whnf)
        | (apply WP.cond; conv => whnf)
        | (apply WP.skip; conv => whnf)
        | (apply WP.ret; conv => whnf)
        | (apply reg_and; (· kernel_rfl); conv => whnf)
        | (apply And.intro; (· first | with_reducible rfl | exact trivial | exact Or.inl ⟨rfl, rfl⟩ | exact Or.inr rfl | decide | omega | (apply Nat.le_of_ble_eq_true; rfl) | (dsimp only; omega) | (simp only [ints_len, gl_len, mp_len, List.length_cons, List.length_nil, List.length_drop, List.length_take]; omega)); conv => whnf)
        | (apply br_f; conv => whnf)
        | fail
      repeat' first
        | (apply Or.inl; rfl)
        | (apply or_row; (· rfl); (· rfl); rfl)
        | (apply And.intro <;> conv => whnf)
        | fail
  refine impl_le (impl_nil1 hb) ?_ rfl
  exact ⟨⟨rfl, .inl rfl, .inl ⟨rfl, rfl, rfl⟩⟩, trivial⟩
def eCl2 : Env := ⟨tbl, [], [], [], [(0, [0]), (1, [0, 4]), (2, [2]), (3, [2])]⟩
theorem clone2_ok {nl : Option Bool} {l : List Int} (hl : l.length ≤ 1000000) : Impl Try.prog 76 [.sl none nl 1 false (ints .i32 l)] (rowA (some 0) l) := by
  have hb : ∀ b : Bool, (b = true → ints .i32 l = []) → Impl Try.prog 76 [.sl none (some b) 1 false (ints .i32 l)] (rowA (some 0) l) := fun b hb => by
    cases b with
    | true =>
      rw [rowA, hb rfl]
      refine impl_of (fn := Try.f76) tbl_ok (by kernel_rfl) (by kernel_rfl) rfl ⟨by simp [Try.f76], by decide⟩ rfl fun W0 => ?_
      repeat' first
        | apply WP.seq
        | (apply WP.region (E := eCl2) mixed tbl_ok; conv => whnf)
        | (apply WP.cond; conv => whnf)
        | (apply WP.ret; conv => whnf)
        | (apply reg_and; (· kernel_rfl); conv => whnf)
        | (apply And.intro; (· first | with_reducible rfl | exact trivial | exact Or.inl ⟨rfl, rfl⟩ | exact Or.inr rfl | decide | omega | (apply Nat.le_of_ble_eq_true; rfl) | (dsimp only; omega) | (simp only [ints_len, gl_len, mp_len, List.length_cons, List.length_nil, List.length_drop, List.length_take]; omega)); conv => whnf)
        | (apply br_t; conv => whnf)
        | fail
      repeat' first
        | (apply Or.inr; apply And.intro; (· rfl); rfl)
        | fail
    | false =>
      refine impl_of (fn := Try.f76) tbl_ok (by kernel_rfl) (by kernel_rfl) rfl ⟨by simp [Try.f76], by decide⟩ rfl fun W0 => ?_
      repeat' first
        | (rw [List.nil_append]; conv => whnf)
        | apply WP.seq
        | (apply WP.region (E := eCl2) mixed tbl_ok; conv => whnf)
        | (apply WP.cond; conv => whnf)
        | (apply WP.skip; conv => whnf)
        | (apply WP.ret; conv => whnf)
        | (apply reg_and; (· kernel_rfl); conv => whnf)
        | (apply And.intro; (· first | with_reducible rfl | exact trivial | exact Or.inl ⟨rfl, rfl⟩ | exact Or.inr rfl | decide | omega | (apply Nat.le_of_ble_eq_true; rfl) | (dsimp only; omega) | (simp only [ints_len, gl_len, mp_len, List.length_cons, List.length_nil, List.length_drop, List.length_take]; omega)); conv => whnf)
        | (apply br_f; conv => whnf)
        | fail
      repeat' first
        | (apply Or.inl; rfl)
        | (apply or_row; (· rfl); (· rfl); rfl)
        | (apply And.intro <;> conv => whnf)
        | fail
  refine impl_le (impl_nil1 hb) ?_ rfl
  exact ⟨⟨rfl, .inl rfl, .inl ⟨rfl, rfl, rfl⟩⟩, trivial⟩
/-- So many rows of so many numbers. -/
def rowsC (n d : Int) (l : List (List Int)) : Prop := (∀ r ∈ l, (r.length : Int) = d) ∧ (l.length : Int) = n
instance (n d : Int) (l : List (List Int)) : Decidable (rowsC n d l) := by unfold rowsC; infer_instance
def eRows9 : Env := ⟨tbl, [], [], [], [(0, [0, 1, 2]), (1, [0, 1, 2, 9, 10, 11]), (2, [0, 1, 2, 9, 10, 11, 12]), (3, [0, 1, 2, 8, 9, 10, 11]), (4, [0, 1, 2, 9, 10, 11, 18]), (5, [6]), (6, [0, 1, 2, 9, 10, 11]), (7, [6])]⟩
theorem rows9_ok {nl : Option Bool} {n d : Int} {l : List (List Int)} (hl : l.length ≤ 1000000) : Impl Try.prog 93 [.sl none nl 1 true (gl (rowA none) l), .i .i64 n, .i .i64 d] (.b (decide (rowsC n d l))) := by
  refine impl_of (fn := Try.f93) tbl_ok (by kernel_rfl) (by kernel_rfl) rfl ⟨by simp [Try.f93], by decide⟩ rfl fun W0 => ?_
  repeat' first
    | apply WP.seq
    | (apply WP.region (E := eRows9) mixed tbl_ok; conv => whnf)
    | apply WP.block
    | (apply reg_and; (· kernel_rfl); conv => whnf)
    | (apply ex_glen; conv => whnf)
    | fail
  refine WP.loopM [8, 11, 12, 18] (fun i : Nat => [(11, .i .i64 i)]) (fun i => i ≤ l.length ∧ ∀ j, j < i → ((l.getD j []).length : Int) = d) (fun i => l.length - i) 0 ?_
  conv => whnf
  refine And.intro (And.intro ?_ ?_) (fun i hi => ?_)
  · exact ⟨by omega, fun j hj => absurd hj (by omega)⟩
  · conv => whnf
    repeat' first
      | apply True.intro
      | (apply ptr_and; (· kernel_rfl); conv => whnf)
      | omega
      | (apply Or.inr; rfl)
      | (apply or_row; (· rfl); (· rfl); rfl)
      | (apply And.intro <;> conv => whnf)
      | fail
  conv => whnf
  obtain ⟨hi1, hi2⟩ := hi
  have ha := fun h => gl_at (f := rowA none) (l := l) (i := i) [] h
  have hm := fun h => getD_in (l := l) (i := i) [] h
  obtain ⟨x, hx⟩ : ∃ x, x = l.getD i [] := ⟨_, rfl⟩
  rw [← hx] at ha hm
  repeat' first
    | apply WP.seq
    | (apply WP.region (E := eRows9) mixed tbl_ok; conv => whnf)
    | (apply WP.cond; conv => whnf)
    | (apply WP.skip; conv => whnf)
    | (apply WP.ret; conv => whnf)
    | (apply WP.exit; conv => whnf)
    | apply WP.block
    | (apply ex_at (ha (by omega)); conv => whnf)
    | (apply reg_and; (· kernel_rfl); conv => whnf)
    | (apply ex_ilen; conv => whnf)
    | (apply ex_glen; conv => whnf)
    | (apply ex_i64; (· omega); conv => whnf)
    | (apply ex_eq; conv => whnf)
    | (apply nd_gl; (· omega); conv => whnf)
    | (apply And.intro; (· first | with_reducible rfl | exact trivial | exact Or.inl ⟨rfl, rfl⟩ | exact Or.inr rfl | decide | omega | (apply Nat.le_of_ble_eq_true; rfl) | (dsimp only; omega) | (simp only [ints_len, gl_len, mp_len, List.length_cons, List.length_nil, List.length_drop, List.length_take]; omega)); conv => whnf)
    | apply br_not
    | (apply br_dec <;> intro hbr <;> (first | rw [decide_eq_true hbr] | rw [decide_eq_false hbr] | skip) <;> conv => whnf)
    | fail
  · refine Exists.intro (i + 1) (And.intro (And.intro ⟨by omega, fun j hj => ?_⟩ (by omega)) ?_)
    · by_cases e : j = i
      · subst e; rw [← hx]; omega
      · exact hi2 j (by omega)
    · conv => whnf
      repeat' first
        | apply True.intro
        | (apply ptr_and; (· kernel_rfl); conv => whnf)
        | omega
        | (apply Or.inr; rfl)
        | (apply or_row; (· rfl); (· rfl); rfl)
        | (apply And.intro <;> conv => whnf)
        | fail
  · exact (decide_eq_false fun e => absurd (e.1 x (hm (by omega))) (by assumption)).symm
  · have hall : ∀ r ∈ l, (r.length : Int) = d := fun r hr => by
      obtain ⟨j, hj⟩ := List.mem_iff_getElem?.1 hr
      have := hi2 j (by have := lt_of_get hj; omega)
      rwa [List.getD_eq_getElem?_getD, hj] at this
    by_cases e : (l.length : Int) = n
    · rw [decide_eq_true (show rowsC n d l from ⟨hall, e⟩)]; exact beq_iff_eq.2 e
    · rw [decide_eq_false (fun h : rowsC n d l => e h.2)]; exact beq_eq_false_iff_ne.2 e
/-- Rows nobody else holds. -/
abbrev rowsW (r : List (List Int)) : AV := .sl (some 0) none 1 true (gl (rowA (some 0)) r)
theorem nle_snoc {α : Type} {f : α → AV} {a : α} {l : List α} {nl nl2 : Option Bool} {s s0 sz : Nat} {dp : Bool} {q : List AV} (he : NLe (.sl (some s) nl2 sz dp q) (f a)) : NLe (.sl (some s0) nl 1 true (gl f l ++ [.sl (some s) nl2 sz dp q])) (.sl (some 0) none 1 true (gl f (l ++ [a]))) := by
  unfold gl
  refine .sl (.inl rfl) (by simp) fun j e e' h1 h2 => ?_
  rw [List.map_append] at h2
  by_cases hj : j < l.length
  · rw [List.getElem?_append_left (by simpa using hj)] at h1 h2
    rw [h1] at h2; cases h2; exact .refl _
  · rw [List.getElem?_append_right (by simpa using hj)] at h1 h2
    have : j - (l.map f).length = 0 := by
      have := lt_of_get h1
      simpa using this
    rw [this] at h1 h2
    cases h1; cases h2; exact he
theorem nle_row {s s' sz : Nat} {dp : Bool} {nl : Option Bool} (q : List AV) : NLe (.sl (some s) nl sz dp q) (.sl (some s') none sz dp q) := .sl (.inl rfl) rfl fun j e e' h1 h2 => by rw [h1] at h2; cases h2; exact .refl _
def eCopyR : Env := ⟨tbl, [], [15, 16], [], [(0, [0]), (1, [0, 3]), (2, [3, 6, 7, 8]), (3, [3, 6, 7, 8, 9]), (4, [3, 5, 6, 7, 8]), (5, [3, 6, 7, 8]), (6, [3, 6, 7, 8]), (7, [2])]⟩
theorem copyR_ok {nl : Option Bool} {l : List (List Int)} (hl : l.length ≤ 1000000) (hr : ∀ r ∈ l, r.length ≤ 1000000) : Impl Try.prog 96 [.sl none nl 1 true (gl (rowA none) l)] (rowsW l) := by
  refine impl_of (fn := Try.f96) tbl_ok (by kernel_rfl) (by kernel_rfl) rfl ⟨by simp [Try.f96], by decide⟩ rfl fun W0 => ?_
  repeat' first
    | apply WP.seq
    | (apply WP.region (E := eCopyR) mixed tbl_ok; conv => whnf)
    | apply WP.block
    | (apply reg_and; (· kernel_rfl); conv => whnf)
    | (apply ex_glen; conv => whnf)
    | fail
  refine WP.loopM [3, 5, 8, 9] (fun i : Nat => [(3, rowsW (l.take i)), (8, .i .i64 i)]) (fun i => i ≤ l.length) (fun i => l.length - i) 0 ?_
  conv => whnf
  refine And.intro (And.intro ?_ ?_) (fun i hi => ?_)
  · first | omega | trivial | skip
  · conv => whnf
    repeat' first
      | apply True.intro
      | (apply ptr_and; (· kernel_rfl); conv => whnf)
      | omega
      | (apply Or.inr; rfl)
      | (apply Or.inl; rfl)
      | (apply or_row; (· rfl); (· rfl); rfl)
      | (apply Or.inr; apply And.intro; (· rfl); rfl)
      | (apply And.intro <;> conv => whnf)
      | fail
  conv => whnf
  have ha := fun h => gl_at (f := rowA none) (l := l) (i := i) [] h
  have hm := fun h => hr _ (getD_in (l := l) (i := i) [] h)
  have ht := fun h : i < l.length => take_snoc (l := l) (i := i) [] h
  obtain ⟨x, hx⟩ : ∃ x, x = l.getD i [] := ⟨_, rfl⟩
  rw [← hx] at ha hm ht
  by_cases hi2 : i < l.length
  · repeat' first
      | (refine WP.nrm (c := .region 6 _ _) 3 (rowsW (l.take (i + 1))) ?_; (conv => whnf); refine And.intro (And.intro (by rw [ht (by omega)]; exact nle_snoc (nle_row _)) True.intro) ?_; (conv => whnf); refine And.intro (by kernel_rfl) (And.intro (by kernel_rfl) ?_))
      | apply WP.seq
      | (apply WP.region (E := eCopyR) mixed tbl_ok; conv => whnf)
      | (apply WP.cond; conv => whnf)
      | (apply WP.skip; conv => whnf)
      | apply WP.block
      | (apply ex_at (ha (by omega)); conv => whnf)
      | (apply reg_and; (· kernel_rfl); conv => whnf)
      | (apply ex_and; (· with_reducible exact clone2_ok (hm (by omega))); conv => whnf)
      | (apply ex_i64; (· omega); conv => whnf)
      | (apply ex_eq; conv => whnf)
      | (apply nd_gl; (· omega); conv => whnf)
      | (apply And.intro; (· first | with_reducible rfl | exact trivial | exact Or.inl ⟨rfl, rfl⟩ | exact Or.inr rfl | decide | omega | (apply Nat.le_of_ble_eq_true; rfl) | (dsimp only; omega) | (simp only [ints_len, gl_len, mp_len, List.length_cons, List.length_nil, List.length_drop, List.length_take]; omega)); conv => whnf)
      | (apply br_yes; (· omega); conv => whnf)
      | fail
    refine Exists.intro (i + 1) (And.intro (And.intro (by omega) (by omega)) ?_)
    conv => whnf
    repeat' first
      | apply True.intro
      | (apply ptr_and; (· kernel_rfl); conv => whnf)
      | omega
      | (apply Or.inr; rfl)
      | (apply or_row; (· rfl); (· rfl); rfl)
      | (apply And.intro <;> conv => whnf)
      | fail
  · repeat' first
      | apply WP.seq
      | (apply WP.region (E := eCopyR) mixed tbl_ok; conv => whnf)
      | (apply WP.cond; conv => whnf)
      | (apply WP.ret; conv => whnf)
      | (apply WP.exit; conv => whnf)
      | (apply reg_and; (· kernel_rfl); conv => whnf)
      | (apply ex_eq; conv => whnf)
      | (apply And.intro; (· first | with_reducible rfl | exact trivial | exact Or.inl ⟨rfl, rfl⟩ | exact Or.inr rfl | decide | omega | (apply Nat.le_of_ble_eq_true; rfl) | (dsimp only; omega) | (simp only [ints_len, gl_len, mp_len, List.length_cons, List.length_nil, List.length_drop, List.length_take]; omega)); conv => whnf)
      | (apply br_no; (· omega); conv => whnf)
      | fail
    rw [List.take_of_length_le (by omega)]
    exact .inl ⟨rfl, rfl, rfl⟩
abbrev rows3W (l : List (List (List Int))) : AV := .sl (some 0) none 1 true (gl rowsW l)
abbrev viewW (t : List Int) (K V : List (List (List Int))) : AV := .agg [.sl (some 0) none 1 false (ints .i64 t), rows3W K, rows3W V]
/-- Sizes of a view's rows. -/
def Siz3 (K : List (List (List Int))) : Prop := K.length ≤ 1000000 ∧ ∀ r ∈ K, r.length ≤ 1000000 ∧ ∀ x ∈ r, x.length ≤ 1000000
def eCopy : Env := ⟨tbl, [], [25, 26, 43, 44], [], [(0, [1, 2, 2999, 2000, 2001, 2002, 3999, 3000, 3001, 3002]), (1, [1, 2, 3, 2999, 2000, 2001, 2002, 3999, 3000, 3001, 3002, 4999, 4000, 4001, 4002]), (2, [1, 2, 3, 14, 15, 16, 2999, 2000, 2001, 2002, 3999, 3000, 3001, 3002, 4999, 4000, 4001, 4002]), (3, [1, 2, 3, 14, 15, 16, 17, 2999, 2000, 2001, 2002, 3999, 3000, 3001, 3002, 4999, 4000, 4001, 4002]), (4, [1, 2, 3, 5, 14, 15, 16, 2999, 2000, 2001, 2002, 3999, 3000, 3001, 3002, 4999, 4000, 4001, 4002]), (5, [1, 2, 3, 14, 15, 16, 2999, 2000, 2001, 2002, 3999, 3000, 3001, 3002, 4999, 4000, 4001, 4002]), (6, [1, 2, 3, 14, 15, 16, 2999, 2000, 2001, 2002, 3999, 3000, 3001, 3002, 4999, 4000, 4001, 4002]), (7, [2, 3, 32, 33, 34, 3999, 3000, 3001, 3002, 4999, 4000, 4001, 4002]), (8, [2, 3, 32, 33, 34, 35, 3999, 3000, 3001, 3002, 4999, 4000, 4001, 4002]), (9, [2, 3, 7, 32, 33, 34, 3999, 3000, 3001, 3002, 4999, 4000, 4001, 4002]), (10, [2, 3, 32, 33, 34, 3999, 3000, 3001, 3002, 4999, 4000, 4001, 4002]), (11, [2, 3, 32, 33, 34, 3999, 3000, 3001, 3002, 4999, 4000, 4001, 4002]), (12, [2, 3999, 3000, 3001, 3002])]⟩
theorem copy_ok {n1 n2 n3 : Option Bool} {t : List Int} {K V : List (List (List Int))} (ht : t.length ≤ 1000000) (hK : Siz3 K) (hV : Siz3 V) : Impl Try.prog 72 [.agg [.sl none n1 1 false (ints .i64 t), .sl none n2 1 true (gl (rowsA none) K), .sl none n3 1 true (gl (rowsA none) V)]] (viewW t K V) := by
  have hk := hK.1
  have hv := hV.1
  refine impl_of (fn := Try.f72) tbl_ok (by kernel_rfl) (by kernel_rfl) rfl ⟨by simp [Try.f72], by decide⟩ rfl fun W0 => ?_
  repeat' first
    | apply WP.seq
    | (apply WP.region (E := eCopy) mixed tbl_ok; conv => whnf)
    | apply WP.block
    | (apply reg_and; (· kernel_rfl); conv => whnf)
    | (apply ex_and; (· with_reducible exact clone1_ok ht); conv => whnf)
    | (apply ex_glen; conv => whnf)
    | fail
  refine WP.loopM [5, 16, 17, 4001] (fun i : Nat => [(4001, rows3W (K.take i)), (16, .i .i64 i)]) (fun i => i ≤ K.length) (fun i => K.length - i) 0 ?_
  conv => whnf
  refine And.intro (And.intro ?_ ?_) (fun i hi => ?_)
  · first | omega | trivial | skip
  · conv => whnf
    repeat' first
      | apply True.intro
      | (apply ptr_and; (· kernel_rfl); conv => whnf)
      | omega
      | (apply Or.inr; rfl)
      | (apply Or.inl; rfl)
      | (apply or_row; (· rfl); (· rfl); rfl)
      | (apply And.intro <;> conv => whnf)
      | fail
  conv => whnf
  have ha := fun h => gl_at (f := rowsA none) (l := K) (i := i) [] h
  have hm := fun h => hK.2 _ (getD_in (l := K) (i := i) [] h)
  have hts := fun h : i < K.length => take_snoc (l := K) (i := i) [] h
  obtain ⟨x, hx⟩ : ∃ x, x = K.getD i [] := ⟨_, rfl⟩
  rw [← hx] at ha hm hts
  by_cases hi2 : i < K.length
  · repeat' first
      | (refine WP.nrm (c := .region 6 _ _) 4001 (rows3W (K.take (i + 1))) ?_; (conv => whnf); refine And.intro (And.intro (by rw [hts (by omega)]; exact nle_snoc (nle_row _)) True.intro) ?_; (conv => whnf); refine And.intro (by kernel_rfl) (And.intro (by kernel_rfl) ?_))
      | apply WP.seq
      | (apply WP.region (E := eCopy) mixed tbl_ok; conv => whnf)
      | (apply WP.cond; conv => whnf)
      | (apply WP.skip; conv => whnf)
      | apply WP.block
      | (apply ex_at (ha (by omega)); conv => whnf)
      | (apply reg_and; (· kernel_rfl); conv => whnf)
      | (apply ex_and; (· with_reducible exact copyR_ok (hm (by omega)).1 (hm (by omega)).2); conv => whnf)
      | (apply ex_i64; (· omega); conv => whnf)
      | (apply ex_eq; conv => whnf)
      | (apply nd_gl; (· omega); conv => whnf)
      | (apply And.intro; (· first | with_reducible rfl | exact trivial | exact Or.inl ⟨rfl, rfl⟩ | exact Or.inr rfl | decide | omega | (apply Nat.le_of_ble_eq_true; rfl) | (dsimp only; omega) | (simp only [ints_len, gl_len, mp_len, List.length_cons, List.length_nil, List.length_drop, List.length_take]; omega)); conv => whnf)
      | (apply br_yes; (· omega); conv => whnf)
      | (rw [fz_rows]; conv => whnf)
      | fail
    refine Exists.intro (i + 1) (And.intro (And.intro (by omega) (by omega)) ?_)
    conv => whnf
    repeat' first
      | apply True.intro
      | (apply ptr_and; (· kernel_rfl); conv => whnf)
      | omega
      | (apply Or.inr; rfl)
      | (apply or_row; (· rfl); (· rfl); rfl)
      | (apply And.intro <;> conv => whnf)
      | fail
  clear ha hm hts hx
  repeat' first
    | apply WP.seq
    | (apply WP.region (E := eCopy) mixed tbl_ok; conv => whnf)
    | (apply WP.cond; conv => whnf)
    | (apply WP.exit; conv => whnf)
    | apply WP.block
    | (apply reg_and; (· kernel_rfl); conv => whnf)
    | (apply ex_glen; conv => whnf)
    | (apply ex_eq; conv => whnf)
    | (apply And.intro; (· first | with_reducible rfl | exact trivial | exact Or.inl ⟨rfl, rfl⟩ | exact Or.inr rfl | decide | omega | (apply Nat.le_of_ble_eq_true; rfl) | (dsimp only; omega) | (simp only [ints_len, gl_len, mp_len, List.length_cons, List.length_nil, List.length_drop, List.length_take]; omega)); conv => whnf)
    | (apply br_no; (· omega); conv => whnf)
    | fail
  rw [List.take_of_length_le (by omega)]
  refine WP.loopM [7, 34, 35, 4002] (fun j : Nat => [(4002, rows3W (V.take j)), (34, .i .i64 j)]) (fun j => j ≤ V.length) (fun j => V.length - j) 0 ?_
  conv => whnf
  refine And.intro (And.intro ?_ ?_) (fun j hj => ?_)
  · first | omega | trivial | skip
  · conv => whnf
    repeat' first
      | apply True.intro
      | (apply ptr_and; (· kernel_rfl); conv => whnf)
      | omega
      | (apply Or.inr; rfl)
      | (apply Or.inl; rfl)
      | (apply or_row; (· rfl); (· rfl); rfl)
      | (apply And.intro <;> conv => whnf)
      | fail
  conv => whnf
  have ha := fun h => gl_at (f := rowsA none) (l := V) (i := j) [] h
  have hm := fun h => hV.2 _ (getD_in (l := V) (i := j) [] h)
  have hts := fun h : j < V.length => take_snoc (l := V) (i := j) [] h
  obtain ⟨x, hx⟩ : ∃ x, x = V.getD j [] := ⟨_, rfl⟩
  rw [← hx] at ha hm hts
  by_cases hj2 : j < V.length
  · repeat' first
      | (refine WP.nrm (c := .region 11 _ _) 4002 (rows3W (V.take (j + 1))) ?_; (conv => whnf); refine And.intro (And.intro (by rw [hts (by omega)]; exact nle_snoc (nle_row _)) True.intro) ?_; (conv => whnf); refine And.intro (by kernel_rfl) (And.intro (by kernel_rfl) ?_))
      | apply WP.seq
      | (apply WP.region (E := eCopy) mixed tbl_ok; conv => whnf)
      | (apply WP.cond; conv => whnf)
      | (apply WP.skip; conv => whnf)
      | apply WP.block
      | (apply ex_at (ha (by omega)); conv => whnf)
      | (apply reg_and; (· kernel_rfl); conv => whnf)
      | (apply ex_and; (· with_reducible exact copyR_ok (hm (by omega)).1 (hm (by omega)).2); conv => whnf)
      | (apply ex_i64; (· omega); conv => whnf)
      | (apply ex_eq; conv => whnf)
      | (apply nd_gl; (· omega); conv => whnf)
      | (apply And.intro; (· first | with_reducible rfl | exact trivial | exact Or.inl ⟨rfl, rfl⟩ | exact Or.inr rfl | decide | omega | (apply Nat.le_of_ble_eq_true; rfl) | (dsimp only; omega) | (simp only [ints_len, gl_len, mp_len, List.length_cons, List.length_nil, List.length_drop, List.length_take]; omega)); conv => whnf)
      | (apply br_yes; (· omega); conv => whnf)
      | (rw [fz_rows]; conv => whnf)
      | fail
    refine Exists.intro (j + 1) (And.intro (And.intro (by omega) (by omega)) ?_)
    conv => whnf
    repeat' first
      | apply True.intro
      | (apply ptr_and; (· kernel_rfl); conv => whnf)
      | omega
      | (apply Or.inr; rfl)
      | (apply or_row; (· rfl); (· rfl); rfl)
      | (apply And.intro <;> conv => whnf)
      | fail
  repeat' first
    | apply WP.seq
    | (apply WP.region (E := eCopy) mixed tbl_ok; conv => whnf)
    | (apply WP.cond; conv => whnf)
    | (apply WP.ret; conv => whnf)
    | (apply WP.exit; conv => whnf)
    | (apply reg_and; (· kernel_rfl); conv => whnf)
    | (apply ex_eq; conv => whnf)
    | (apply And.intro; (· first | with_reducible rfl | exact trivial | exact Or.inl ⟨rfl, rfl⟩ | exact Or.inr rfl | decide | omega | (apply Nat.le_of_ble_eq_true; rfl) | (dsimp only; omega) | (simp only [ints_len, gl_len, mp_len, List.length_cons, List.length_nil, List.length_drop, List.length_take]; omega)); conv => whnf)
    | (apply br_no; (· omega); conv => whnf)
    | fail
  rw [List.take_of_length_le (by omega)]
  repeat' first
    | apply True.intro
    | (apply Or.inr; rfl)
    | (apply or_row; (· rfl); (· rfl); rfl)
    | (apply And.intro <;> conv => whnf)
    | fail
end Go.Proofs.Ytjihjjbieeofdaa.T
namespace Go.Proofs.Ytjihjjbieeofdaa.T
set_option linter.unusedSimpArgs false
set_option linter.unusedVariables false
open Go
set_option linter.unusedVariables false
set_option maxHeartbeats 8000000
set_option maxRecDepth 100000
/-- A view that fits. -/
structure VwG (V D L : Nat) (t : List Int) (K W : List (List (List Int))) : Prop where
  toks : ∀ x ∈ t, 0 ≤ x ∧ x < (V : Int)
  len : t.length ≤ 128
  num : (t.length = 0 ∧ K.length = 0 ∧ W.length = 0) ∨ (0 < t.length ∧ K.length = L ∧ W.length = L)
  keys : ∀ r ∈ K, r.length = t.length ∧ RowsN D r
  vals : ∀ r ∈ W, r.length = t.length ∧ RowsN D r
def eFits9 : Env := ⟨tbl, [], [], [], [(0, [2, 3, 3999, 3000, 3001, 3002, 3003, 3004, 4999, 4000, 4001, 4002]), (1, [2, 3, 11, 12, 13, 3999, 3000, 3001, 3002, 3003, 3004, 4999, 4000, 4001, 4002]), (2, [2, 3, 11, 12, 13, 14, 3999, 3000, 3001, 3002, 3003, 3004, 4999, 4000, 4001, 4002]), (3, [2, 3, 6, 11, 12, 13, 3999, 3000, 3001, 3002, 3003, 3004, 4999, 4000, 4001, 4002]), (4, [2, 3, 11, 12, 13, 24, 3999, 3000, 3001, 3002, 3003, 3004, 4999, 4000, 4001, 4002]), (5, [4]), (6, [2, 3, 11, 12, 13, 3999, 3000, 3001, 3002, 3003, 3004, 4999, 4000, 4001, 4002]), (7, [2, 3, 7, 3999, 3000, 3001, 3002, 3003, 3004, 4999, 4000, 4001, 4002]), (8, [2, 3, 7, 30, 3999, 3000, 3001, 3002, 3003, 3004, 4999, 4000, 4001, 4002]), (9, [4]), (10, [2, 3, 7, 62, 3999, 3000, 3001, 3002, 3003, 3004, 4999, 4000, 4001, 4002]), (11, [4]), (12, [2, 3, 7, 65, 66, 67, 3999, 3000, 3001, 3002, 3003, 3004, 4999, 4000, 4001, 4002]), (13, [2, 3, 7, 65, 66, 67, 68, 3999, 3000, 3001, 3002, 3003, 3004, 4999, 4000, 4001, 4002]), (14, [2, 3, 7, 8, 9, 65, 66, 67, 3999, 3000, 3001, 3002, 3003, 3004, 4999, 4000, 4001, 4002]), (15, [2, 3, 7, 65, 66, 67, 90, 3999, 3000, 3001, 3002, 3003, 3004, 4999, 4000, 4001, 4002]), (16, [4]), (17, [2, 3, 7, 65, 66, 67, 3999, 3000, 3001, 3002, 3003, 3004, 4999, 4000, 4001, 4002]), (18, [4])]⟩
theorem fits9_ok {n1 n2 n3 : Option Bool} {c : Cfg} {V D n H L s : Nat} {t : List Int} {K W : List (List (List Int))} (hc : CfgG c V D n H L s) (hg : VwG V D L t K W) : Impl Try.prog 68 [cfgA c, .agg [.sl none n1 1 false (ints .i64 t), .sl none n2 1 true (gl (rowsA none) K), .sl none n3 1 true (gl (rowsA none) W)]] (.b true) := by
  obtain ⟨c1, c2, c3, c4, c5⟩ := c
  obtain ⟨g1, g2, g3, g4, g5, g6⟩ := hc
  obtain ⟨rfl, h1⟩ := g1
  obtain ⟨rfl, h2⟩ := g2
  obtain ⟨rfl, h5⟩ := g5
  obtain ⟨v1, v2, v3, v4, v5⟩ := hg
  clear g3 g4 g6
  rw [cfgA_eq]
  refine impl_of (fn := Try.f68) tbl_ok (by kernel_rfl) (by kernel_rfl) rfl ⟨by simp [Try.f68], by decide⟩ rfl fun W0 => ?_
  repeat' first
    | apply WP.seq
    | (apply WP.region (E := eFits9) mixed tbl_ok; conv => whnf)
    | apply WP.block
    | (apply reg_and; (· kernel_rfl); conv => whnf)
    | (apply ex_ilen; conv => whnf)
    | fail
  refine WP.loopM [6, 13, 14, 24] (fun i : Nat => [(13, .i .i64 i)]) (fun i => i ≤ t.length) (fun i => t.length - i) 0 ?_
  conv => whnf
  refine And.intro (And.intro ?_ ?_) (fun i hi => ?_)
  · first | omega | trivial | skip
  · conv => whnf
    repeat' first
      | apply True.intro
      | (apply ptr_and; (· kernel_rfl); conv => whnf)
      | omega
      | (apply Or.inr; rfl)
      | (apply or_row; (· rfl); (· rfl); rfl)
      | (apply And.intro <;> conv => whnf)
      | fail
  conv => whnf
  have hx := fun h : i < t.length => v1 _ (getD_in (l := t) (i := i) 0 h)
  obtain ⟨x, hxe⟩ : ∃ x, x = t.getD i 0 := ⟨_, rfl⟩
  rw [← hxe] at hx
  by_cases hi2 : i < t.length
  · have hx2 := hx hi2
    repeat' first
      | apply WP.seq
      | (apply WP.region (E := eFits9) mixed tbl_ok; conv => whnf)
      | (apply WP.cond; conv => whnf)
      | (apply WP.skip; conv => whnf)
      | apply WP.block
      | (apply ex_ints; (· omega); rw [Int.toNat_natCast, ← hxe]; conv => whnf)
      | (apply reg_and; (· kernel_rfl); conv => whnf)
      | (apply ex_i64; (· omega); conv => whnf)
      | (apply ex_eq; conv => whnf)
      | (apply gd_br)
      | (apply nd_ints; (· omega); conv => whnf)
      | (apply And.intro; (· first | with_reducible rfl | exact trivial | exact Or.inl ⟨rfl, rfl⟩ | exact Or.inr rfl | decide | omega | (apply Nat.le_of_ble_eq_true; rfl) | (dsimp only; omega) | (simp only [ints_len, gl_len, mp_len, List.length_cons, List.length_nil, List.length_drop, List.length_take]; omega)); conv => whnf)
      | (apply br_yes; (· omega); conv => whnf)
      | (apply br_no; (· omega); conv => whnf)
      | fail
    refine Exists.intro (i + 1) (And.intro (And.intro (by omega) (by omega)) ?_)
    conv => whnf
    repeat' first
      | apply True.intro
      | (apply ptr_and; (· kernel_rfl); conv => whnf)
      | omega
      | (apply Or.inr; rfl)
      | (apply or_row; (· rfl); (· rfl); rfl)
      | (apply And.intro <;> conv => whnf)
      | fail
  repeat' first
    | apply WP.seq
    | (apply WP.region (E := eFits9) mixed tbl_ok; conv => whnf)
    | (apply WP.cond; conv => whnf)
    | (apply WP.skip; conv => whnf)
    | (apply WP.ret; conv => whnf)
    | (apply WP.exit; conv => whnf)
    | apply WP.block
    | (apply reg_and; (· kernel_rfl); conv => whnf)
    | (apply ex_ilen; conv => whnf)
    | (apply ex_glen; conv => whnf)
    | (apply ex_eq; conv => whnf)
    | (apply gd_br)
    | (apply And.intro; (· first | with_reducible rfl | exact trivial | exact Or.inl ⟨rfl, rfl⟩ | exact Or.inr rfl | decide | omega | (apply Nat.le_of_ble_eq_true; rfl) | (dsimp only; omega) | (simp only [ints_len, gl_len, mp_len, List.length_cons, List.length_nil, List.length_drop, List.length_take]; omega)); conv => whnf)
    | apply br_not
    | (apply br_yes; (· omega); conv => whnf)
    | (apply br_no; (· omega); conv => whnf)
    | (apply br_dec <;> intro hbr <;> (first | rw [decide_eq_true hbr] | rw [decide_eq_false hbr] | skip) <;> conv => whnf)
    | fail
  · exact beq_iff_eq.2 (by omega)
  refine WP.loopM [8, 9, 67, 68, 90] (fun j : Nat => [(67, .i .i64 j)]) (fun j => j ≤ K.length) (fun j => K.length - j) 0 ?_
  conv => whnf
  refine And.intro (And.intro ?_ ?_) (fun j hj => ?_)
  · first | omega | trivial | skip
  · conv => whnf
    repeat' first
      | apply True.intro
      | (apply ptr_and; (· kernel_rfl); conv => whnf)
      | omega
      | (apply Or.inr; rfl)
      | (apply or_row; (· rfl); (· rfl); rfl)
      | (apply And.intro <;> conv => whnf)
      | fail
  conv => whnf
  have ha := fun h => gl_at (f := rowsA none) (l := K) (i := j) [] h
  have hb := fun h => gl_at (f := rowsA none) (l := W) (i := j) [] h
  have hka := fun h => v4 _ (getD_in (l := K) (i := j) [] h)
  have hkb := fun h => v5 _ (getD_in (l := W) (i := j) [] h)
  obtain ⟨x, hx⟩ : ∃ x, x = K.getD j [] := ⟨_, rfl⟩
  obtain ⟨y, hy⟩ : ∃ y, y = W.getD j [] := ⟨_, rfl⟩
  rw [← hx] at ha hka
  rw [← hy] at hb hkb
  by_cases hj2 : j < K.length
  · have hk := hka hj2
    have hl := hkb (by omega)
    have ex : rowsC t.length D x := ⟨fun r hr => by rw [(hk.2 r hr).1], by rw [hk.1]⟩
    have ey : rowsC t.length D y := ⟨fun r hr => by rw [(hl.2 r hr).1], by rw [hl.1]⟩
    have r1 := fun {nl : Option Bool} => rows9_ok (nl := nl) (n := t.length) (d := D) (l := x) (by omega)
    have r2 := fun {nl : Option Bool} => rows9_ok (nl := nl) (n := t.length) (d := D) (l := y) (by omega)
    rw [decide_eq_true ex] at r1
    rw [decide_eq_true ey] at r2
    repeat' first
      | apply WP.seq
      | (apply WP.region (E := eFits9) mixed tbl_ok; conv => whnf)
      | (apply WP.cond; conv => whnf)
      | (apply WP.skip; conv => whnf)
      | apply WP.block
      | (apply ex_at (ha (by omega)); conv => whnf)
      | (apply ex_at (hb (by omega)); conv => whnf)
      | (apply reg_and; (· kernel_rfl); conv => whnf)
      | (apply ex_and; (· with_reducible exact r1); conv => whnf)
      | (apply ex_and; (· with_reducible exact r2); conv => whnf)
      | (apply ex_i64; (· omega); conv => whnf)
      | (apply ex_eq; conv => whnf)
      | ((with_reducible apply gd_nt); conv => whnf)
      | (apply nd_gl; (· omega); conv => whnf)
      | (apply And.intro; (· first | with_reducible rfl | exact trivial | exact Or.inl ⟨rfl, rfl⟩ | exact Or.inr rfl | decide | omega | (apply Nat.le_of_ble_eq_true; rfl) | (dsimp only; omega) | (simp only [ints_len, gl_len, mp_len, List.length_cons, List.length_nil, List.length_drop, List.length_take]; omega)); conv => whnf)
      | apply br_not
      | (apply br_t; conv => whnf)
      | (apply br_yes; (· omega); conv => whnf)
      | (rw [fz_rows]; conv => whnf)
      | fail
    refine Exists.intro (j + 1) (And.intro (And.intro (by omega) (by omega)) ?_)
    conv => whnf
    repeat' first
      | apply True.intro
      | (apply ptr_and; (· kernel_rfl); conv => whnf)
      | omega
      | (apply Or.inr; rfl)
      | (apply or_row; (· rfl); (· rfl); rfl)
      | (apply And.intro <;> conv => whnf)
      | fail
  repeat' first
    | apply WP.seq
    | (apply WP.region (E := eFits9) mixed tbl_ok; conv => whnf)
    | (apply WP.cond; conv => whnf)
    | (apply WP.ret; conv => whnf)
    | (apply WP.exit; conv => whnf)
    | (apply reg_and; (· kernel_rfl); conv => whnf)
    | (apply ex_eq; conv => whnf)
    | (apply And.intro; (· first | with_reducible rfl | exact trivial | exact Or.inl ⟨rfl, rfl⟩ | exact Or.inr rfl | decide | omega | (apply Nat.le_of_ble_eq_true; rfl) | (dsimp only; omega) | (simp only [ints_len, gl_len, mp_len, List.length_cons, List.length_nil, List.length_drop, List.length_take]; omega)); conv => whnf)
    | (apply br_no; (· omega); conv => whnf)
    | fail
end Go.Proofs.Ytjihjjbieeofdaa.T
namespace Go.Proofs.Ytjihjjbieeofdaa.T
set_option linter.unusedSimpArgs false
set_option linter.unusedVariables false
open Go
set_option linter.unusedVariables false
set_option maxHeartbeats 8000000
set_option maxRecDepth 100000
theorem fz_rowsW (l : List (List (List Int))) : AV.fzL (gl rowsW l) = gl (rowsA none) l := by
  rw [AV.fzL_map]; unfold gl; rw [List.map_map]
  refine List.map_congr_left fun r _ => ?_
  show AV.sl none none 1 true (AV.fzL (gl (rowA (some 0)) r)) = _
  rw [fz_rows]
theorem nle_zero {m : Nat} {nl : Option Bool} {Q : List (List (List Int))} (hl : m = Q.length) (hq : ∀ r ∈ Q, r = []) : NLe (.sl (some 0) nl 1 true (List.replicate m (.sl (some 0) (some true) 1 true []))) (rows3W Q) := by
  subst hl
  refine .sl (.inl rfl) (by rw [gl_len, List.length_replicate]) fun j e e' h1 h2 => ?_
  have hj : j < Q.length := by have := lt_of_get h1; rwa [List.length_replicate] at this
  rw [List.getElem?_replicate, if_pos hj] at h1
  cases h1
  unfold gl at h2
  rw [List.getElem?_map, List.getElem?_eq_getElem hj] at h2
  cases h2
  rw [hq _ (List.getElem_mem hj)]
  exact .sl (.inl rfl) rfl fun j e e' h => by cases h
theorem nle_putW {K : List (List (List Int))} {n s2 s3 : Nat} {nl nl2 nl3 : Option Bool} {r : List (List Int)} {x : List Int} (hn : n < K.length) : NLe (.sl (some 0) nl 1 true (((gl rowsW K).set n .any).set n (.sl (some s2) nl2 1 true (gl (rowA (some 0)) r ++ [.sl (some s3) nl3 1 false (ints .i32 x)])))) (rows3W (K.set n (r ++ [x]))) := by
  refine .sl (.inl rfl) (by rw [gl_len, List.length_set, List.length_set, List.length_set, gl_len]) fun j e e' h1 h2 => ?_
  unfold gl at h2
  rw [List.getElem?_map, List.getElem?_set] at h2
  by_cases hj : n = j
  · subst hj
    rw [List.getElem?_set_self (by rw [List.length_set, gl_len]; exact hn)] at h1
    cases h1
    rw [if_pos rfl, if_pos hn] at h2
    cases h2
    exact nle_snoc (nle_row _)
  · rw [if_neg hj] at h2
    rw [List.getElem?_set_ne hj, List.getElem?_set_ne hj] at h1
    unfold gl at h1
    rw [List.getElem?_map] at h1
    rw [h1] at h2; cases h2; exact .refl _
/-- What is kept of tokens: nothing of none. -/
def vK (D H s : Nat) (w : Wts) (t : List Int) : List (List (List Int)) := if t.length = 0 then [] else sKeys D H s w t
def vV (D H s : Nat) (w : Wts) (t : List Int) : List (List (List Int)) := if t.length = 0 then [] else sVals D H s w t
theorem kF_good {V D H L s : Nat} {w : Wts} {t : List Int} (hg : WtsG V D H L w) {l i : Nat} (hl : l < L) (hi : i < t.length) : (kF D H s w (fB D w t) l i).length = D ∧ I32s (kF D H s w (fB D w t) l i) := by
  unfold kF
  rw [List.getElem?_eq_getElem (by rw [hg.layers]; exact hl)]
  exact ⟨sApply_len _ _ _ _, sApply_i32 _ _ _ _⟩
theorem vF_good {V D H L s : Nat} {w : Wts} {t : List Int} (hg : WtsG V D H L w) {l i : Nat} (hl : l < L) (hi : i < t.length) : (vF D H s w (fB D w t) l i).length = D ∧ I32s (vF D H s w (fB D w t) l i) := by
  unfold vF
  rw [List.getElem?_eq_getElem (by rw [hg.layers]; exact hl)]
  exact ⟨sApply_len _ _ _ _, sApply_i32 _ _ _ _⟩
theorem vw_good {V D H L s : Nat} {w : Wts} {t : List Int} (hg : WtsG V D H L w) (ht : ∀ x ∈ t, 0 ≤ x ∧ x < (V : Int)) (hl : t.length ≤ 128) : VwG V D L t (vK D H s w t) (vV D H s w t) := by
  refine ⟨ht, hl, ?_, ?_, ?_⟩
  · unfold vK vV sKeys sVals
    by_cases h : t.length = 0
    · rw [if_pos h, if_pos h]; exact .inl ⟨h, rfl, rfl⟩
    · rw [if_neg h, if_neg h, mp_len, mp_len, hg.layers]; exact .inr ⟨by omega, rfl, rfl⟩
  · unfold vK sKeys
    intro r hr
    split at hr
    · cases hr
    · obtain ⟨l, hl1, rfl⟩ := List.mem_map.1 hr
      rw [List.mem_range, hg.layers] at hl1
      exact ⟨mp_len _ _, mp_rowsN fun j hj => kF_good hg hl1 hj⟩
  · unfold vV sVals
    intro r hr
    split at hr
    · cases hr
    · obtain ⟨l, hl1, rfl⟩ := List.mem_map.1 hr
      rw [List.mem_range, hg.layers] at hl1
      exact ⟨mp_len _ _, mp_rowsN fun j hj => vF_good hg hl1 hj⟩
end Go.Proofs.Ytjihjjbieeofdaa.T
namespace Go.Proofs.Ytjihjjbieeofdaa.T
set_option linter.unusedSimpArgs false
set_option linter.unusedVariables false
open Go
set_option linter.unusedVariables false
set_option maxHeartbeats 8000000
set_option maxRecDepth 100000
theorem kF_snoc {D H s : Nat} {w : Wts} {t : List Int} {q : Int} (l : Nat) : mp t.length (kF D H s w (fB D w t) l) = mp t.length (kF D H s w (fB D w (t ++ [q])) l) := mp_congr fun i hi => by
  have e : (t ++ [q]).take t.length = t := by simp
  have := X_pre (D := D) (H := H) (s := s) (w := w) (fB_take (D := D) (w := w) (t := t ++ [q]) (n := t.length) (by simp)) l i hi
  rw [e] at this
  unfold kF
  rw [this]
theorem vF_snoc {D H s : Nat} {w : Wts} {t : List Int} {q : Int} (l : Nat) : mp t.length (vF D H s w (fB D w t) l) = mp t.length (vF D H s w (fB D w (t ++ [q])) l) := mp_congr fun i hi => by
  have e : (t ++ [q]).take t.length = t := by simp
  have := X_pre (D := D) (H := H) (s := s) (w := w) (fB_take (D := D) (w := w) (t := t ++ [q]) (n := t.length) (by simp)) l i hi
  rw [e] at this
  unfold vF
  rw [this]
theorem vw_siz {V D L : Nat} {t : List Int} {K W : List (List (List Int))} (h : VwG V D L t K W) (hD : D ≤ 1000 ∧ L ≤ 1000) : Siz3 K ∧ Siz3 W := by
  obtain ⟨h1, h2, h3, h4, h5⟩ := h
  refine ⟨⟨by omega, fun r hr => ⟨by have := (h4 r hr).1; omega, fun x hx => by have := ((h4 r hr).2 x hx).1; omega⟩⟩, ⟨by omega, fun r hr => ⟨by have := (h5 r hr).1; omega, fun x hx => by have := ((h5 r hr).2 x hx).1; omega⟩⟩⟩
def stepK (L m : Nat) (k : Nat → Nat → List Int) (l : Nat) : List (List (List Int)) := mp L fun l' => if l' < l then mp (m + 1) (k l') else mp m (k l')
theorem stepK_len (L m : Nat) (k : Nat → Nat → List Int) (l : Nat) : (stepK L m k l).length = L := mp_len _ _
theorem stepK_0 (L m : Nat) (k : Nat → Nat → List Int) : stepK L m k 0 = mp L fun l => mp m (k l) := mp_congr fun j hj => by rw [if_neg (by omega)]
theorem stepK_L (L m : Nat) (k : Nat → Nat → List Int) : stepK L m k L = mp L fun l => mp (m + 1) (k l) := mp_congr fun j hj => by rw [if_pos hj]
theorem stepK_set {L m : Nat} {k : Nat → Nat → List Int} {l : Nat} (hl : l < L) : (stepK L m k l).set ((l : Nat) : Int).toNat (mp m (k l) ++ [k l m]) = stepK L m k (l + 1) := by
  rw [← mp_succ, Int.toNat_natCast]
  unfold stepK
  refine List.ext_getElem (by rw [List.length_set, mp_len, mp_len]) fun j h1 h2 => ?_
  rw [mp_len] at h2
  rw [List.getElem_set, mp_at, mp_at]
  by_cases e : l = j
  · subst e; rw [if_pos rfl, if_pos (by omega)]
  · rw [if_neg e]
    by_cases h : j < l
    · rw [if_pos h, if_pos (by omega)]
    · rw [if_neg h, if_neg (by omega)]
theorem stepK_at {L m : Nat} {k : Nat → Nat → List Int} {l : Nat} (f : List (List Int) → AV) (hl : l < L) : (gl f (stepK L m k l))[((l : Nat) : Int).toNat]? = some (f (mp m (k l))) := by
  rw [Int.toNat_natCast]; unfold gl stepK mp; rw [List.getElem?_map, List.getElem?_map, List.getElem?_range hl]; simp
def eFeed : Env := ⟨tbl, [], [113, 114, 122, 123], [100, 104, 95, 96, 97], [(0, [3, 4, 5, 6, 8, 5999, 5000, 5001, 5002, 5003, 5004, 6999, 6000, 6001, 6002, 6003, 6004, 6005, 6006, 6007, 7999, 7000, 7001, 7002, 9999, 9000, 9001, 9002]), (1, [3, 4, 5, 6, 8, 11, 5999, 5000, 5001, 5002, 5003, 5004, 6999, 6000, 6001, 6002, 6003, 6004, 6005, 6006, 6007, 7999, 7000, 7001, 7002, 9999, 9000, 9001, 9002]), (2, [3, 4, 5, 6, 8, 11, 23, 5999, 5000, 5001, 5002, 5003, 5004, 6999, 6000, 6001, 6002, 6003, 6004, 6005, 6006, 6007, 7999, 7000, 7001, 7002, 9999, 9000, 9001, 9002]), (3, [8, 9, 10, 9999, 9000, 9001, 9002]), (4, [3, 4, 5, 6, 8, 26, 5999, 5000, 5001, 5002, 5003, 5004, 6999, 6000, 6001, 6002, 6003, 6004, 6005, 6006, 6007, 7999, 7000, 7001, 7002, 9999, 9000, 9001, 9002]), (5, [8, 9, 10, 9999, 9000, 9001, 9002]), (6, [3, 4, 5, 6, 8, 32, 5999, 5000, 5001, 5002, 5003, 5004, 6999, 6000, 6001, 6002, 6003, 6004, 6005, 6006, 6007, 7999, 7000, 7001, 7002, 9999, 9000, 9001, 9002]), (7, [8, 9, 10, 9999, 9000, 9001, 9002]), (8, [3, 4, 5, 6, 8, 38, 5999, 5000, 5001, 5002, 5003, 5004, 6999, 6000, 6001, 6002, 6003, 6004, 6005, 6006, 6007, 7999, 7000, 7001, 7002, 9999, 9000, 9001, 9002]), (9, [8, 9, 10, 9999, 9000, 9001, 9002]), (10, [3, 4, 5, 6, 8, 12, 5999, 5000, 5001, 5002, 5003, 5004, 6999, 6000, 6001, 6002, 6003, 6004, 6005, 6006, 6007, 7999, 7000, 7001, 7002, 9999, 9000, 9001, 9002, 13999, 13000, 13001, 13002]), (11, [3, 4, 5, 6, 8, 12, 53, 5999, 5000, 5001, 5002, 5003, 5004, 6999, 6000, 6001, 6002, 6003, 6004, 6005, 6006, 6007, 7999, 7000, 7001, 7002, 9999, 9000, 9001, 9002, 13999, 13000, 13001, 13002]), (12, [3, 4, 5, 6, 8, 12, 5999, 5000, 5001, 5002, 5003, 5004, 6999, 6000, 6001, 6002, 6003, 6004, 6005, 6006, 6007, 7999, 7000, 7001, 7002, 9999, 9000, 9001, 9002, 13999, 13000, 13001, 13002]), (13, [3, 4, 5, 8, 12, 13, 5999, 5000, 5001, 5002, 5003, 5004, 6999, 6000, 6001, 6002, 6003, 6004, 6005, 6006, 6007, 9999, 9000, 9001, 9002, 13999, 13000, 13001, 13002]), (14, [3, 4, 5, 8, 12, 13, 71, 72, 73, 5999, 5000, 5001, 5002, 5003, 5004, 6999, 6000, 6001, 6002, 6003, 6004, 6005, 6006, 6007, 9999, 9000, 9001, 9002, 13999, 13000, 13001, 13002]), (15, [3, 4, 5, 8, 12, 13, 71, 72, 73, 74, 5999, 5000, 5001, 5002, 5003, 5004, 6999, 6000, 6001, 6002, 6003, 6004, 6005, 6006, 6007, 9999, 9000, 9001, 9002, 13999, 13000, 13001, 13002]), (16, [3, 4, 5, 8, 12, 13, 14, 15, 71, 72, 73, 5999, 5000, 5001, 5002, 5003, 5004, 6999, 6000, 6001, 6002, 6003, 6004, 6005, 6006, 6007, 9999, 9000, 9001, 9002, 13999, 13000, 13001, 13002, 16999, 16000, 16001, 16002, 16003, 16004, 16005, 16006, 16007, 16008, 16009, 16010, 16011, 16012, 16013, 16014, 16015, 16016, 16017, 16018, 16019]), (17, [3, 4, 5, 8, 12, 14, 16, 17, 18, 71, 72, 73, 5999, 5000, 5001, 5002, 5003, 5004, 6999, 6000, 6001, 6002, 6003, 6004, 6005, 6006, 6007, 9999, 9000, 9001, 9002, 13999, 13000, 13001, 13002]), (18, [3, 4, 5, 8, 12, 16, 71, 72, 73, 5999, 5000, 5001, 5002, 5003, 5004, 6999, 6000, 6001, 6002, 6003, 6004, 6005, 6006, 6007, 9999, 9000, 9001, 9002, 13999, 13000, 13001, 13002]), (19, [3, 4, 5, 8, 12, 13, 71, 72, 73, 5999, 5000, 5001, 5002, 5003, 5004, 6999, 6000, 6001, 6002, 6003, 6004, 6005, 6006, 6007, 9999, 9000, 9001, 9002, 13999, 13000, 13001, 13002]), (20, [3, 4, 5, 8, 12, 13, 71, 72, 73, 5999, 5000, 5001, 5002, 5003, 5004, 6999, 6000, 6001, 6002, 6003, 6004, 6005, 6006, 6007, 9999, 9000, 9001, 9002, 13999, 13000, 13001, 13002]), (21, [5, 8, 12, 13, 6999, 6000, 6001, 6002, 6003, 6004, 6005, 6006, 6007, 9999, 9000, 9001, 9002, 13999, 13000, 13001, 13002]), (22, [8, 9, 10, 9999, 9000, 9001, 9002]), (1017, [3, 4, 5, 8, 12, 14, 71, 72, 73, 5000, 5001, 5002, 5003, 5004, 5999, 6000, 6001, 6002, 6003, 6004, 6005, 6006, 6007, 6999, 9000, 9001, 9002, 9999, 13000, 13001, 13002, 13999]), (2017, [])]⟩
theorem feed_ok {n1 n2 n3 : Option Bool} {c : Cfg} {V D n H L s : Nat} {w : Wts} {t : List Int} {q : Nat} (hc : CfgG c V D n H L s) (hg : WtsG V D H L w) (ht : ∀ x ∈ t, 0 ≤ x ∧ x < (V : Int)) (hl : t.length ≤ 127) (hq : q < V) : Impl Try.prog 42 [cfgA c, wtsA none none w, .agg [.sl none n1 1 false (ints .i64 t), .sl none n2 1 true (gl (rowsA none) (vK D H s w t)), .sl none n3 1 true (gl (rowsA none) (vV D H s w t))], .i .i64 q] (.tup [viewW (t ++ [(q : Int)]) (vK D H s w (t ++ [(q : Int)])) (vV D H s w (t ++ [(q : Int)])), rowA (some 0) (sFull V D H s w (t ++ [(q : Int)])), .i .i64 0]) := by
  have hlay := hg.layers
  have hcl := hc.gl
  have hck := mcheck_ok c w (by omega)
  rw [chkW_of hc hg] at hck
  have hvg := vw_good (D := D) (H := H) (s := s) hg ht (by omega)
  have hft := fun {n1 n2 n3 : Option Bool} => fits9_ok (n1 := n1) (n2 := n2) (n3 := n3) hc hvg
  obtain ⟨z1, z2⟩ := vw_siz hvg (by have := hc.gd; omega)
  have hcp := fun {n1 n2 n3 : Option Bool} => copy_ok (n1 := n1) (n2 := n2) (n3 := n3) (t := t) (by omega) z1 z2
  have hV := hc.gv.1
  have hTl : (t ++ [(q : Int)]).length = t.length + 1 := by simp
  have hTq : (t ++ [(q : Int)]).getD t.length 0 = q := by simp [List.getD_eq_getElem?_getD]
  have hk0 : t.length ≠ 0 → vK D H s w t = stepK L t.length (kF D H s w (fB D w (t ++ [(q : Int)]))) 0 := fun h => by
    unfold vK sKeys; rw [if_neg h, hlay, stepK_0]; exact mp_congr fun l hl => kF_snoc l
  have hv0 : t.length ≠ 0 → vV D H s w t = stepK L t.length (vF D H s w (fB D w (t ++ [(q : Int)]))) 0 := fun h => by
    unfold vV sVals; rw [if_neg h, hlay, stepK_0]; exact mp_congr fun l hl => vF_snoc l
  have hkT : vK D H s w (t ++ [(q : Int)]) = stepK L t.length (kF D H s w (fB D w (t ++ [(q : Int)]))) L := by
    unfold vK sKeys; rw [if_neg (by omega), hlay, stepK_L, hTl]
  have hvT : vV D H s w (t ++ [(q : Int)]) = stepK L t.length (vF D H s w (fB D w (t ++ [(q : Int)]))) L := by
    unfold vV sVals; rw [if_neg (by omega), hlay, stepK_L, hTl]
  have hfT : sFull V D H s w (t ++ [(q : Int)]) = sLikes V D w (X D H s w (fB D w (t ++ [(q : Int)])) L t.length) := by
    unfold sFull; rw [hlay, hTl, Nat.add_sub_cancel]
  have hX := X_ok (V := V) (H := H) (L := L) (s := s) (w := w) (m := t.length + 1) (F0 := fB D w (t ++ [(q : Int)])) (fun i _ => ⟨sBegin_len _ _ _ _, sBegin_i32 _ _ _ _⟩)
  have hbeg : Impl Try.prog 73 [wtsA none none w, .i .i64 q, .i .i64 t.length] (rowA (some 0) (X D H s w (fB D w (t ++ [(q : Int)])) 0 t.length)) := by
    show Impl _ _ _ (rowA (some 0) (sBegin D w ((t ++ [(q : Int)]).getD t.length 0).toNat t.length))
    rw [hTq, Int.toNat_natCast]; exact begin_ok hg hq (by omega) (by have := hc.gd; omega)
  rw [hkT, hvT, hfT]
  have hgk : ∀ l i, l < L → i < (t ++ [(q : Int)]).length → _ := fun l i h1 h2 => kF_good (s := s) (t := t ++ [(q : Int)]) hg h1 h2
  have hgv : ∀ l i, l < L → i < (t ++ [(q : Int)]).length → _ := fun l i h1 h2 => vF_good (s := s) (t := t ++ [(q : Int)]) hg h1 h2
  rw [hTl] at hgk hgv
  clear hkT hvT hfT hTl hTq ht hvg z1 z2
  generalize fB D w (t ++ [(q : Int)]) = F at *
  generalize vK D H s w t = K0 at *
  generalize vV D H s w t = V0 at *
  have hs0 : ∀ (k : Nat → Nat → List Int), t.length = 0 → ∀ r ∈ stepK L t.length k 0, r = [] := fun k h r hr => by
    rw [stepK_0, h] at hr
    obtain ⟨l, _, rfl⟩ := List.mem_map.1 hr
    rfl
  have hsl := stepK_len L t.length
  obtain ⟨Kn, hKn⟩ : ∃ Kn, Kn = stepK L t.length (kF D H s w F) := ⟨_, rfl⟩
  obtain ⟨Vn, hVn⟩ : ∃ Vn, Vn = stepK L t.length (vF D H s w F) := ⟨_, rfl⟩
  have hzk := hs0 (kF D H s w F)
  have hzv := hs0 (vF D H s w F)
  have hlk := hsl (kF D H s w F)
  have hlv := hsl (vF D H s w F)
  rw [← hKn] at hk0 hzk hlk
  rw [← hVn] at hv0 hzv hlv
  rw [← hKn, ← hVn]
  have hlk0 := hlk 0
  have hlv0 := hlv 0
  refine impl_of (fn := Try.f42) tbl_ok (by kernel_rfl) (by kernel_rfl) rfl ⟨by simp [Try.f42], by decide⟩ rfl fun W0 => ?_
  repeat' first
    | (refine WP.nrm (c := .region 13 _ _) 13001 (rows3W (Kn 0)) ?_; (conv => whnf); refine And.intro (And.intro (by exact nle_zero (by omega) (hzk (by omega))) True.intro) ?_; (conv => whnf); refine And.intro (by kernel_rfl) (And.intro (by kernel_rfl) ?_))
    | (refine WP.nrm (c := .region 13 _ _) 13001 (rows3W (Kn 0)) ?_; (conv => whnf); refine And.intro (And.intro (by rw [hk0 (by omega)]; exact .refl _) True.intro) ?_; (conv => whnf); refine And.intro (by kernel_rfl) (And.intro (by kernel_rfl) ?_))
    | (refine WP.nrm (c := .region 13 _ _) 13002 (rows3W (Vn 0)) ?_; (conv => whnf); refine And.intro (And.intro (by exact nle_zero (by omega) (hzv (by omega))) True.intro) ?_; (conv => whnf); refine And.intro (by kernel_rfl) (And.intro (by kernel_rfl) ?_))
    | (refine WP.nrm (c := .region 13 _ _) 13002 (rows3W (Vn 0)) ?_; (conv => whnf); refine And.intro (And.intro (by rw [hv0 (by omega)]; exact .refl _) True.intro) ?_; (conv => whnf); refine And.intro (by kernel_rfl) (And.intro (by kernel_rfl) ?_))
    | apply WP.seq
    | (apply WP.region (E := eFeed) mixed tbl_ok; conv => whnf)
    | (apply WP.cond; conv => whnf)
    | (apply WP.skip; conv => whnf)
    | apply WP.block
    | (rw [fz_blks]; conv => whnf)
    | (rw [fz_rows3]; conv => whnf)
    | (apply reg_and; (· kernel_rfl); conv => whnf)
    | (apply ex_and; (· with_reducible exact hck); conv => whnf)
    | (apply ex_and; (· with_reducible exact hft); conv => whnf)
    | (apply ex_and; (· with_reducible exact hcp); conv => whnf)
    | (apply ex_and; (· with_reducible exact hbeg); conv => whnf)
    | (apply ex_ilen; conv => whnf)
    | (apply ex_glen; conv => whnf)
    | (apply ex_eq; conv => whnf)
    | (apply gd_br)
    | (apply And.intro; (· first | with_reducible rfl | exact trivial | exact Or.inl ⟨rfl, rfl⟩ | exact Or.inr rfl | decide | omega | (apply Nat.le_of_ble_eq_true; rfl) | (dsimp only; omega) | (simp only [ints_len, gl_len, mp_len, List.length_cons, List.length_nil, List.length_drop, List.length_take]; omega)); conv => whnf)
    | apply br_not
    | (apply br_t; conv => whnf)
    | (apply br_f; conv => whnf)
    | (apply br_no; (· omega); conv => whnf)
    | (apply br_dec <;> intro hbr <;> (first | rw [decide_eq_true hbr] | rw [decide_eq_false hbr] | skip) <;> conv => whnf)
    | fail
  all_goals
    refine WP.loopM [13, 14, 15, 16, 17, 18, 73, 74, 13001, 13002, 16999, 16000, 16001, 16002, 16003, 16004, 16005, 16006, 16007, 16008, 16009, 16010, 16011, 16012, 16013, 16014, 16015, 16016, 16017, 16018, 16019] (fun l : Nat => [(13, rowA (some 0) (X D H s w F l t.length)), (73, .i .i64 l), (13001, rows3W (Kn l)), (13002, rows3W (Vn l))]) (fun l => l ≤ L) (fun l => L - l) 0 ?_
    conv => whnf
    refine And.intro (And.intro ?_ ?_) (fun l hl => ?_)
    · first | omega | trivial | skip
    · conv => whnf
      repeat' first
        | apply True.intro
        | (apply ptr_and; (· kernel_rfl); conv => whnf)
        | omega
        | (apply Or.inr; rfl)
        | (apply or_row; (· rfl); (· rfl); rfl)
        | (apply And.intro <;> conv => whnf)
        | fail
    conv => whnf
    by_cases hlL : l < L
    · obtain ⟨b, hb⟩ : ∃ b, w.blocks[l]? = some b := ⟨_, List.getElem?_eq_getElem (by omega)⟩
      have hbg : BlkG D H b := hg.blocks b (List.mem_of_getElem? hb)
      have hbat : (gl (blkA none) w.blocks)[((l : Nat) : Int).toNat]? = some (blkA none b) := by rw [Int.toNat_natCast]; unfold gl; rw [List.getElem?_map, hb]; rfl
      have hkb : ∀ i, kF D H s w F l i = sK D b (X D H s w F l i) := fun i => by unfold kF; rw [hb]
      have hvb : ∀ i, vF D H s w F l i = sV D b (X D H s w F l i) := fun i => by unfold vF; rw [hb]
      have hXn : X D H s w F (l + 1) t.length = (sOne D H s b (X D H s w F l t.length) (mp t.length (kF D H s w F l)) (mp t.length (vF D H s w F l))).x := by
        show (match w.blocks[l]? with | some b => lx D H s b (X D H s w F l) t.length | none => []) = _
        rw [hb]
        show lx D H s b (X D H s w F l) t.length = _
        unfold lx
        rw [mp_congr fun i _ => hkb i, mp_congr fun i _ => hvb i]; rfl
      have hx := hX l (by omega) t.length (by omega)
      have hone : ∀ {nx nk nv : Option Bool}, Impl Try.prog 74 [cfgA c, blkA none b, .sl none nx 1 false (ints .i32 (X D H s w F l t.length)), .sl none nk 1 true (gl (rowA none) (mp t.length (kF D H s w F l))), .sl none nv 1 true (gl (rowA none) (mp t.length (vF D H s w F l)))] (.tup [rowA (some 0) (X D H s w F (l + 1) t.length), rowA (some 0) (kF D H s w F l t.length), rowA (some 0) (vF D H s w F l t.length)]) := fun {nx nk nv} => by
        rw [hXn, hkb t.length, hvb t.length]
        refine one_okN hc.gn.1 hc.gn.2 hc.gs hc.gd.2 (by have := hc.gh; omega) hbg hx.1 hx.2 (mp_rowsN fun j hj => hgk l j hlL (by omega)) (mp_rowsN fun j hj => hgv l j hlL (by omega)) ⟨by rw [mp_len, mp_len], by rw [mp_len]; omega⟩
      have hks := stepK_set (m := t.length) (k := kF D H s w F) hlL
      have hvs := stepK_set (m := t.length) (k := vF D H s w F) hlL
      have hKa := stepK_at (m := t.length) (k := kF D H s w F) (rowsA none) hlL
      have hVa := stepK_at (m := t.length) (k := vF D H s w F) (rowsA none) hlL
      have hKo := stepK_at (m := t.length) (k := kF D H s w F) rowsW hlL
      have hVo := stepK_at (m := t.length) (k := vF D H s w F) rowsW hlL
      rw [← hKn] at hks hKa hKo
      rw [← hVn] at hvs hVa hVo
      have hKl1 := hlk l
      have hVl1 := hlv l
      have hKy : ((gl rowsW (Kn l)).set ((l : Nat) : Int).toNat .any)[((l : Nat) : Int).toNat]? = some .any := List.getElem?_set_self (by rw [gl_len]; omega)
      have hVy : ((gl rowsW (Vn l)).set ((l : Nat) : Int).toNat .any)[((l : Nat) : Int).toNat]? = some .any := List.getElem?_set_self (by rw [gl_len]; omega)
      have hln : ((l : Nat) : Int).toNat < L := by omega
      clear hX hXn hkb hvb hgk hgv
      repeat' first
        | (refine WP.nrm (c := .region 19 _ _) 13001 (rows3W (Kn (l + 1))) ?_; (conv => whnf); refine And.intro (And.intro (by rw [← hks]; exact nle_putW (by omega)) True.intro) ?_; (conv => whnf); refine And.intro (by kernel_rfl) (And.intro (by kernel_rfl) ?_))
        | (refine WP.nrm (c := .region 19 _ _) 13002 (rows3W (Vn (l + 1))) ?_; (conv => whnf); refine And.intro (And.intro (by rw [← hvs]; exact nle_putW (by omega)) True.intro) ?_; (conv => whnf); refine And.intro (by kernel_rfl) (And.intro (by kernel_rfl) ?_))
        | (refine WP.regionB (E := eFeed) (id := 17) [(20, 17), (21, 18), (22, 19)] [(16, 78, 0), (17, 78, 1), (18, 78, 2)] mixed tbl_ok ?_ ?_ ?_ ?_; (· kernel_rfl); (· kernel_rfl); (· kernel_rfl); conv => whnf)
        | apply WP.seq
        | (apply WP.region (E := eFeed) mixed tbl_ok; conv => whnf)
        | (apply WP.cond; conv => whnf)
        | (apply WP.skip; conv => whnf)
        | apply WP.block
        | (apply nd_set; (· omega); conv => whnf)
        | (apply ex_at hKa; conv => whnf)
        | (apply ex_at hVa; conv => whnf)
        | (apply ex_at hKo; conv => whnf)
        | (apply ex_at hVo; conv => whnf)
        | (apply ex_at hKy; conv => whnf)
        | (apply ex_at hVy; conv => whnf)
        | (apply ex_at hbat; conv => whnf)
        | (rw [fz_blks]; conv => whnf)
        | (rw [fz_rowsW]; conv => whnf)
        | (rw [fz_rows3]; conv => whnf)
        | (rw [fz_rows]; conv => whnf)
        | (apply reg_and; (· kernel_rfl); conv => whnf)
        | (apply ex_and; (· with_reducible exact hone); conv => whnf)
        | (apply ex_i64; (· omega); conv => whnf)
        | (apply ex_eq; conv => whnf)
        | (apply nd_gl; (· omega); conv => whnf)
        | (apply And.intro; (· first | with_reducible rfl | exact trivial | exact Or.inl ⟨rfl, rfl⟩ | exact Or.inr rfl | decide | omega | (apply Nat.le_of_ble_eq_true; rfl) | (dsimp only; omega) | (simp only [ints_len, gl_len, mp_len, List.length_cons, List.length_nil, List.length_drop, List.length_take]; omega)); conv => whnf)
        | (apply br_yes; (· omega); conv => whnf)
        | fail
      · refine Exists.intro (l + 1) (And.intro (And.intro ?_ ?_) ?_)
        · first | omega | skip
        · first | omega | skip
        conv => whnf
        repeat' first
          | apply True.intro
          | (apply ptr_and; (· kernel_rfl); conv => whnf)
          | omega
          | (apply Or.inr; rfl)
          | (apply or_row; (· rfl); (· rfl); rfl)
          | (apply And.intro <;> conv => whnf)
          | fail
    · have e : l = L := by omega
      subst e
      have hxl := hX l (by omega) t.length (by omega)
      have hlik : ∀ {nx : Option Bool}, Impl Try.prog 67 [wtsA none none w, .sl none nx 1 false (ints .i32 (X D H s w F l t.length))] (rowA (some 0) (sLikes V D w (X D H s w F l t.length))) := fun {nx} => likes_ok (by have := hc.gd; omega) hg hxl.1 hxl.2
      repeat' first
        | apply WP.seq
        | (apply WP.region (E := eFeed) mixed tbl_ok; conv => whnf)
        | (apply WP.cond; conv => whnf)
        | (apply WP.ret; conv => whnf)
        | (apply WP.exit; conv => whnf)
        | (rw [fz_blks]; conv => whnf)
        | (rw [ints_snoc]; conv => whnf)
        | (apply reg_and; (· kernel_rfl); conv => whnf)
        | (apply ex_and; (· with_reducible exact hlik); conv => whnf)
        | (apply ex_eq; conv => whnf)
        | (apply nodup_and; (· exact of_decide_eq_true (by kernel_rfl)); conv => whnf)
        | (apply And.intro; (· first | with_reducible rfl | exact trivial | exact Or.inl ⟨rfl, rfl⟩ | exact Or.inr rfl | decide | omega | (apply Nat.le_of_ble_eq_true; rfl) | (dsimp only; omega) | (simp only [ints_len, gl_len, mp_len, List.length_cons, List.length_nil, List.length_drop, List.length_take]; omega)); conv => whnf)
        | (apply br_no; (· omega); conv => whnf)
        | fail
      repeat' first
        | apply True.intro
        | exact Int.NonNeg.mk _
        | (apply Or.inr; rfl)
        | (apply Or.inl; rfl)
        | (apply or_row; (· rfl); (· rfl); rfl)
        | (apply And.intro <;> conv => whnf)
        | (apply Nat.le_of_ble_eq_true; rfl)
        | fail
end Go.Proofs.Ytjihjjbieeofdaa.T
namespace Go.Proofs.Ytjihjjbieeofdaa.T
set_option linter.unusedSimpArgs false
set_option linter.unusedVariables false
open Go
set_option linter.unusedVariables false
set_option maxHeartbeats 8000000
set_option maxRecDepth 100000
abbrev viewA (o : Option Nat) (t : List Int) (K W : List (List (List Int))) : AV := .agg [.sl o none 1 false (ints .i64 t), rows3 o K, rows3 o W]
end Go.Proofs.Ytjihjjbieeofdaa.T
namespace Go.Proofs.Ytjihjjbieeofdaa.T
set_option linter.unusedSimpArgs false
set_option linter.unusedVariables false
open Go
set_option linter.unusedVariables false
set_option maxHeartbeats 8000000
set_option maxRecDepth 100000
def eAll : Env := ⟨tbl, [36, 12], [], [], [(0, [3, 4, 5, 6, 8, 5999, 5000, 5001, 5002, 5003, 5004, 6999, 6000, 6001, 6002, 6003, 6004, 6005, 6006, 6007, 7999, 7000, 7001, 7002, 9999, 9000, 9001, 9002]), (1, [3, 4, 5, 6, 8, 11, 5999, 5000, 5001, 5002, 5003, 5004, 6999, 6000, 6001, 6002, 6003, 6004, 6005, 6006, 6007, 7999, 7000, 7001, 7002, 9999, 9000, 9001, 9002]), (2, [3, 4, 5, 6, 8, 11, 22, 5999, 5000, 5001, 5002, 5003, 5004, 6999, 6000, 6001, 6002, 6003, 6004, 6005, 6006, 6007, 7999, 7000, 7001, 7002, 9999, 9000, 9001, 9002]), (3, [8, 9, 10, 9999, 9000, 9001, 9002]), (4, [3, 4, 5, 6, 8, 12, 5999, 5000, 5001, 5002, 5003, 5004, 6999, 6000, 6001, 6002, 6003, 6004, 6005, 6006, 6007, 7999, 7000, 7001, 7002, 9999, 9000, 9001, 9002]), (5, [4, 5, 6, 8, 12, 25, 26, 27, 5999, 5000, 5001, 5002, 5003, 5004, 6999, 6000, 6001, 6002, 6003, 6004, 6005, 6006, 6007, 7999, 7000, 7001, 7002, 9999, 9000, 9001, 9002]), (6, [4, 5, 6, 8, 12, 25, 26, 27, 28, 5999, 5000, 5001, 5002, 5003, 5004, 6999, 6000, 6001, 6002, 6003, 6004, 6005, 6006, 6007, 7999, 7000, 7001, 7002, 9999, 9000, 9001, 9002]), (7, [4, 5, 6, 8, 14, 25, 26, 27, 5999, 5000, 5001, 5002, 5003, 5004, 6999, 6000, 6001, 6002, 6003, 6004, 6005, 6006, 6007, 7999, 7000, 7001, 7002, 9999, 9000, 9001, 9002]), (8, [4, 5, 6, 8, 15, 16, 17, 25, 26, 27, 5999, 5000, 5001, 5002, 5003, 5004, 6999, 6000, 6001, 6002, 6003, 6004, 6005, 6006, 6007, 7999, 7000, 7001, 7002, 9999, 9000, 9001, 9002, 16999, 16000, 16001, 16002]), (9, [4, 5, 6, 8, 15, 16, 17, 25, 26, 27, 41, 5999, 5000, 5001, 5002, 5003, 5004, 6999, 6000, 6001, 6002, 6003, 6004, 6005, 6006, 6007, 7999, 7000, 7001, 7002, 9999, 9000, 9001, 9002, 16999, 16000, 16001, 16002]), (10, [8, 9, 10, 9999, 9000, 9001, 9002]), (11, [4, 5, 6, 8, 12, 25, 26, 27, 5999, 5000, 5001, 5002, 5003, 5004, 6999, 6000, 6001, 6002, 6003, 6004, 6005, 6006, 6007, 7999, 7000, 7001, 7002, 9999, 9000, 9001, 9002]), (12, [4, 5, 6, 8, 12, 25, 26, 27, 5999, 5000, 5001, 5002, 5003, 5004, 6999, 6000, 6001, 6002, 6003, 6004, 6005, 6006, 6007, 7999, 7000, 7001, 7002, 9999, 9000, 9001, 9002]), (13, [8, 9, 10, 9999, 9000, 9001, 9002])]⟩
theorem all_ok {nt n1 n2 n3 : Option Bool} {c : Cfg} {V D n H L s : Nat} {w : Wts} {t u : List Int} (hc : CfgG c V D n H L s) (hg : WtsG V D H L w) (ht : ∀ x ∈ t, 0 ≤ x ∧ x < (V : Int)) (hu : prm c.vocab u = 0) (hl : t.length + u.length ≤ 128) : Impl Try.prog 38 [cfgA c, wtsA none none w, .agg [.sl none n1 1 false (ints .i64 t), .sl none n2 1 true (gl (rowsA none) (vK D H s w t)), .sl none n3 1 true (gl (rowsA none) (vV D H s w t))], .sl none nt 1 false (ints .i64 u)] (.tup [viewA none (t ++ u) (vK D H s w (t ++ u)) (vV D H s w (t ++ u)), rowA none (sFull V D H s w (t ++ u)), .i .i64 0]) := by
  obtain ⟨p1, p2, p3⟩ := prm_zero hu
  have hP : ∀ {nt : Option Bool}, Impl Try.prog 53 [cfgA c, .sl none nt 1 false (ints .i64 u)] (.i .i64 0) := fun {nt} => by
    have := prompt_ok (nt := nt) c (t := u) (by omega)
    rwa [hu] at this
  have hV := hc.gv.1
  obtain ⟨Tn, hTn⟩ : ∃ Tn : Nat → List Int, ∀ i, Tn i = t ++ u.take i := ⟨_, fun _ => rfl⟩
  have h0 : Tn 0 = t := by rw [hTn]; simp
  have hend : t ++ u = Tn u.length := by rw [hTn]; simp
  have hTl : ∀ i, i ≤ u.length → (Tn i).length = t.length + i := fun i hi => by rw [hTn, List.length_append, List.length_take]; omega
  have hTv : ∀ i, ∀ x ∈ Tn i, 0 ≤ x ∧ x < (V : Int) := fun i x hx => by
    rw [hTn] at hx
    rcases List.mem_append.1 hx with hx | hx
    · exact ht x hx
    · have := p3 x (List.mem_of_mem_take hx); omega
  have hTs : ∀ i, i < u.length → Tn (i + 1) = Tn i ++ [u.getD i 0] := fun i hi => by rw [hTn, hTn, take_snoc 0 hi, List.append_assoc]
  rw [hend, ← h0]
  clear hTn hend
  refine impl_of (fn := Try.f38) tbl_ok (by kernel_rfl) (by kernel_rfl) rfl ⟨by simp [Try.f38], by decide⟩ rfl fun W0 => ?_
  repeat' first
    | apply WP.seq
    | (apply WP.region (E := eAll) mixed tbl_ok; conv => whnf)
    | (apply WP.cond; conv => whnf)
    | (apply WP.skip; conv => whnf)
    | apply WP.block
    | (apply reg_and; (· kernel_rfl); conv => whnf)
    | (apply ex_and; (· with_reducible exact hP); conv => whnf)
    | (apply ex_ilen; conv => whnf)
    | (apply ex_eq; conv => whnf)
    | (apply And.intro; (· first | with_reducible rfl | exact trivial | exact Or.inl ⟨rfl, rfl⟩ | exact Or.inr rfl | decide | omega | (apply Nat.le_of_ble_eq_true; rfl) | (dsimp only; omega) | (simp only [ints_len, gl_len, mp_len, List.length_cons, List.length_nil, List.length_drop, List.length_take]; omega)); conv => whnf)
    | apply br_not
    | (apply br_t; conv => whnf)
    | fail
  refine WP.loopM [12, 14, 15, 16, 17, 27, 28, 41, 7000, 7001, 7002, 16999, 16000, 16001, 16002] (fun i : Nat => [(27, .i .i64 i), (7000, .sl none none 1 false (ints .i64 (Tn i))), (7001, rows3 none (vK D H s w (Tn i))), (7002, rows3 none (vV D H s w (Tn i))), (12, rowA none (if i = 0 then [] else sFull V D H s w (Tn i)))]) (fun i => i ≤ u.length) (fun i => u.length - i) 0 ?_
  conv => whnf
  refine And.intro (And.intro ?_ ?_) (fun i hi => ?_)
  · first | omega | trivial | skip
  · conv => whnf
    repeat' first
      | apply True.intro
      | (apply ptr_and; (· kernel_rfl); conv => whnf)
      | omega
      | (apply Or.inr; rfl)
      | (apply Or.inl; rfl)
      | (apply or_row; (· rfl); (· rfl); rfl)
      | (apply Or.inr; apply And.intro; (· rfl); rfl)
      | (apply And.intro <;> conv => whnf)
      | fail
  conv => whnf
  by_cases hi2 : i < u.length
  · have hx := p3 _ (getD_in (l := u) 0 hi2)
    obtain ⟨q, hq⟩ : ∃ q : Nat, u.getD i 0 = q := ⟨(u.getD i 0).toNat, by omega⟩
    have hf := fun {n1 n2 n3 : Option Bool} => feed_ok (n1 := n1) (n2 := n2) (n3 := n3) (q := q) hc hg (hTv i) (by rw [hTl i (by omega)]; omega) (by omega)
    have hs := hTs i hi2
    rw [hq] at hs
    rw [← hs] at hf
    clear hs hTs hTv
    repeat' first
      | (rw [fz_blks]; conv => whnf)
      | (rw [fz_rows3]; conv => whnf)
      | (rw [fz_rowsW]; conv => whnf)
      | apply WP.seq
      | (apply WP.region (E := eAll) mixed tbl_ok; conv => whnf)
      | (apply WP.cond; conv => whnf)
      | (apply WP.skip; conv => whnf)
      | apply WP.block
      | (apply ex_ints; (· omega); rw [Int.toNat_natCast, hq]; conv => whnf)
      | (apply reg_and; (· kernel_rfl); conv => whnf)
      | (apply ex_and; (· with_reducible exact hf); conv => whnf)
      | (apply ex_i64; (· omega); conv => whnf)
      | (apply ex_eq; conv => whnf)
      | (apply nd_ints; (· omega); conv => whnf)
      | (apply And.intro; (· first | with_reducible rfl | exact trivial | exact Or.inl ⟨rfl, rfl⟩ | exact Or.inr rfl | decide | omega | (apply Nat.le_of_ble_eq_true; rfl) | (dsimp only; omega) | (simp only [ints_len, gl_len, mp_len, List.length_cons, List.length_nil, List.length_drop, List.length_take]; omega)); conv => whnf)
      | apply br_not
      | (apply br_t; conv => whnf)
      | (apply br_yes; (· omega); conv => whnf)
      | fail
    refine Exists.intro (i + 1) (And.intro (And.intro (by omega) (by omega)) ?_)
    conv => whnf
    rw [if_neg (by omega)]
    repeat' first
      | apply True.intro
      | (apply ptr_and; (· kernel_rfl); conv => whnf)
      | omega
      | (apply Or.inr; rfl)
      | (apply or_row; (· rfl); (· rfl); rfl)
      | (apply And.intro <;> conv => whnf)
      | fail
  have e : i = u.length := by omega
  subst e
  rw [if_neg (by omega)]
  repeat' first
    | apply WP.seq
    | (apply WP.region (E := eAll) mixed tbl_ok; conv => whnf)
    | (apply WP.cond; conv => whnf)
    | (apply WP.ret; conv => whnf)
    | (apply WP.exit; conv => whnf)
    | (apply reg_and; (· kernel_rfl); conv => whnf)
    | (apply ex_eq; conv => whnf)
    | (apply nodup_and; (· exact of_decide_eq_true (by kernel_rfl)); conv => whnf)
    | (apply And.intro; (· first | with_reducible rfl | exact trivial | exact Or.inl ⟨rfl, rfl⟩ | exact Or.inr rfl | decide | omega | (apply Nat.le_of_ble_eq_true; rfl) | (dsimp only; omega) | (simp only [ints_len, gl_len, mp_len, List.length_cons, List.length_nil, List.length_drop, List.length_take]; omega)); conv => whnf)
    | (apply br_no; (· omega); conv => whnf)
    | fail
  repeat' first
    | apply True.intro
    | exact Int.NonNeg.mk _
    | (apply Or.inr; rfl)
    | (apply or_row; (· rfl); (· rfl); rfl)
    | (apply And.intro <;> conv => whnf)
    | (apply Nat.le_of_ble_eq_true; rfl)
    | fail
end Go.Proofs.Ytjihjjbieeofdaa.T
namespace Go.Proofs.Ytjihjjbieeofdaa.T
set_option linter.unusedSimpArgs false
set_option linter.unusedVariables false
open Go
set_option linter.unusedVariables false
set_option maxHeartbeats 8000000
set_option maxRecDepth 100000
theorem fz_nil : AV.fzL [] = [] := rfl
/-- The view of nothing. -/
abbrev viewZ : AV := .agg [.sl none (some true) 1 false [], .sl none (some true) 1 true [], .sl none (some true) 1 true []]
end Go.Proofs.Ytjihjjbieeofdaa.T
namespace Go.Proofs.Ytjihjjbieeofdaa.T
set_option linter.unusedSimpArgs false
set_option linter.unusedVariables false
open Go
set_option linter.unusedVariables false
/-- The token that is liked best behind a row of them. -/
def nx (V D H s : Nat) (w : Wts) (t : List Int) : Int := argN (sFull V D H s w t) V
/-- The answer's first n tokens, if it never ends. -/
def ans (V D H s : Nat) (w : Wts) (p : List Int) : Nat → List Int
  | 0 => []
  | n + 1 => ans V D H s w p n ++ [nx V D H s w (p ++ ans V D H s w p n)]
theorem sFull_len (V D H s : Nat) (w : Wts) (t : List Int) : (sFull V D H s w t).length = V := by unfold sFull sLikes; rw [sApply_len]
theorem sFull_i32 (V D H s : Nat) (w : Wts) (t : List Int) : I32s (sFull V D H s w t) := by unfold sFull sLikes; exact sApply_i32 _ _ _ _
theorem nx_in {V D H s : Nat} {w : Wts} (hV : 0 < V) (t : List Int) : 0 ≤ nx V D H s w t ∧ nx V D H s w t < V := by
  have := argN_in (sFull V D H s w t) V
  unfold nx; omega
theorem ans_len (V D H s : Nat) (w : Wts) (p : List Int) : ∀ n, (ans V D H s w p n).length = n
  | 0 => rfl
  | n + 1 => by unfold ans; rw [List.length_append, ans_len V D H s w p n]; rfl
theorem ans_in {V D H s : Nat} {w : Wts} {p : List Int} (hV : 0 < V) : ∀ n, ∀ x ∈ ans V D H s w p n, 0 ≤ x ∧ x < (V : Int)
  | 0, x, hx => by cases hx
  | n + 1, x, hx => by
    unfold ans at hx
    rcases List.mem_append.1 hx with hx | hx
    · exact ans_in hV n x hx
    · have := List.mem_singleton.1 hx
      rw [this]; exact nx_in hV _
/-- Is an answer at its end? -/
def ovr (a : List Int) (most : Int) : Prop := most ≤ a.length ∨ (0 < a.length ∧ a.getD (a.length - 1) 0 = 0)
instance (a : List Int) (most : Int) : Decidable (ovr a most) := by unfold ovr; infer_instance
structure Ends (V D H s : Nat) (w : Wts) (p : List Int) (most : Int) (k : Nat) : Prop where
  pos : 1 ≤ k
  le : (k : Int) ≤ most
  fin : ovr (ans V D H s w p k) most
  not : ∀ j, j < k → ¬ ovr (ans V D H s w p j) most
theorem ends_ex {V D H s : Nat} {w : Wts} {p : List Int} {most : Int} (h : 1 ≤ most) : ∃ k, Ends V D H s w p most k := by
  have key : ∀ n : Nat, (∃ k, k ≤ n ∧ ovr (ans V D H s w p k) most ∧ ∀ j, j < k → ¬ ovr (ans V D H s w p j) most) ∨ ∀ j, j ≤ n → ¬ ovr (ans V D H s w p j) most := by
    intro n
    induction n with
    | zero =>
      refine .inr fun j hj => ?_
      have : j = 0 := by omega
      subst this
      rintro (h1 | h1)
      · have : (0 : Int) = ((ans V D H s w p 0).length : Int) := rfl
        omega
      · exact absurd h1.1 (by show ¬ 0 < 0; omega)
    | succ n ih =>
      rcases ih with ⟨k, h1, h2, h3⟩ | ih
      · exact .inl ⟨k, by omega, h2, h3⟩
      · by_cases ho : ovr (ans V D H s w p (n + 1)) most
        · exact .inl ⟨n + 1, Nat.le_refl _, ho, fun j hj => ih j (by omega)⟩
        · refine .inr fun j hj => ?_
          by_cases e : j = n + 1
          · subst e; exact ho
          · exact ih j (by omega)
  rcases key most.toNat with ⟨k, h1, h2, h3⟩ | hn
  · refine ⟨k, ?_, by omega, h2, h3⟩
    rcases Nat.eq_zero_or_pos k with e | e
    · subst e
      rcases h2 with h2 | h2
      · have : (0 : Int) = ((ans V D H s w p 0).length : Int) := rfl
        omega
      · exact absurd h2.1 (by show ¬ 0 < 0; omega)
    · exact e
  · exact absurd (show ovr (ans V D H s w p most.toNat) most from .inl (by rw [ans_len]; omega)) (hn _ (Nat.le_refl _))
end Go.Proofs.Ytjihjjbieeofdaa.T
namespace Go.Proofs.Ytjihjjbieeofdaa.T
set_option linter.unusedSimpArgs false
set_option linter.unusedVariables false
open Go
set_option linter.unusedVariables false
set_option maxHeartbeats 8000000
set_option maxRecDepth 100000
theorem argN_least (l : List Int) : ∀ (n j : Nat), (j : Int) < argN l n → l.getD j 0 ≠ topN l n
  | 0, j, h => by unfold argN at h; omega
  | n + 1, j, h => by
    have h1 := argN_in l n
    have h2 := argN_least l n j
    by_cases h0 : n = 0
    · subst h0
      have : argN l 1 = 0 := rfl
      rw [this] at h; omega
    · have h3 := argN_top l n (by omega)
      unfold argN at h
      rw [if_neg (by omega)] at h
      unfold topN
      rw [← h3] at h2 ⊢
      split at h
      · rw [if_pos (by assumption)]
        have := topN_ge l n j (by omega)
        rw [← h3] at this
        omega
      · rw [if_neg (by assumption)]
        exact h2 h
def eIndex : Env := ⟨tbl, [], [], [], [(0, [0, 1]), (1, [0, 1, 7, 8]), (2, [0, 1, 7, 8, 9]), (3, [0, 1, 5, 7, 8]), (4, [0, 1, 5, 7, 8, 16]), (5, [4]), (6, [0, 1, 7, 8]), (7, [4])]⟩
theorem index_ok {na : Option Bool} {l : List Int} {v : Int} {m : Nat} (hl : l.length ≤ 4096) (hm : m < l.length) (hv : l.getD m 0 = v) (hn : ∀ j, j < m → l.getD j 0 ≠ v) : Impl Try.prog 78 [.sl none na 1 false (ints .i32 l), .i .i32 v] (.i .i64 m) := by
  refine impl_of (fn := Try.f78) tbl_ok (by kernel_rfl) (by kernel_rfl) rfl ⟨by simp [Try.f78], by decide⟩ rfl fun W0 => ?_
  repeat' first
    | apply WP.seq
    | (apply WP.region (E := eIndex) mixed tbl_ok; conv => whnf)
    | apply WP.block
    | (apply reg_and; (· kernel_rfl); conv => whnf)
    | (apply ex_ilen; conv => whnf)
    | fail
  refine WP.loopM [5, 8, 9, 16] (fun i : Nat => [(8, .i .i64 i)]) (fun i => i ≤ m) (fun i => m - i) 0 ?_
  conv => whnf
  refine And.intro (And.intro ?_ ?_) (fun i hi => ?_)
  · first | omega | trivial | skip
  · conv => whnf
    repeat' first
      | apply True.intro
      | (apply ptr_and; (· kernel_rfl); conv => whnf)
      | omega
      | (apply Or.inr; rfl)
      | (apply or_row; (· rfl); (· rfl); rfl)
      | (apply And.intro <;> conv => whnf)
      | fail
  conv => whnf
  have hg : l.getD ((i : Nat) : Int).toNat 0 = l.getD i 0 := by rw [Int.toNat_natCast]
  by_cases e : i = m
  · subst e
    rw [hv] at hg
    repeat' first
      | apply WP.seq
      | (apply WP.region (E := eIndex) mixed tbl_ok; conv => whnf)
      | (apply WP.cond; conv => whnf)
      | (apply WP.skip; conv => whnf)
      | (apply WP.ret; conv => whnf)
      | apply WP.block
      | (apply ex_ints; (· omega); rw [hg]; conv => whnf)
      | (apply reg_and; (· kernel_rfl); conv => whnf)
      | (apply ex_eq; conv => whnf)
      | (apply nd_ints; (· omega); conv => whnf)
      | (apply And.intro; (· first | with_reducible rfl | exact trivial | exact Or.inl ⟨rfl, rfl⟩ | exact Or.inr rfl | decide | omega | (apply Nat.le_of_ble_eq_true; rfl) | (dsimp only; omega) | (simp only [ints_len, gl_len, mp_len, List.length_cons, List.length_nil, List.length_drop, List.length_take]; omega)); conv => whnf)
      | (apply br_yes; (· omega); conv => whnf)
      | fail
  · have hne := hn i (by omega)
    rw [← hg] at hne
    repeat' first
      | apply WP.seq
      | (apply WP.region (E := eIndex) mixed tbl_ok; conv => whnf)
      | (apply WP.cond; conv => whnf)
      | (apply WP.skip; conv => whnf)
      | apply WP.block
      | (apply reg_and; (· kernel_rfl); conv => whnf)
      | (apply ex_i64; (· omega); conv => whnf)
      | (apply ex_ints; (· omega); conv => whnf)
      | (apply ex_eq; conv => whnf)
      | (apply nd_ints; (· omega); conv => whnf)
      | (apply And.intro; (· first | with_reducible rfl | exact trivial | exact Or.inl ⟨rfl, rfl⟩ | exact Or.inr rfl | decide | omega | (apply Nat.le_of_ble_eq_true; rfl) | (dsimp only; omega) | (simp only [ints_len, gl_len, mp_len, List.length_cons, List.length_nil, List.length_drop, List.length_take]; omega)); conv => whnf)
      | (apply br_yes; (· omega); conv => whnf)
      | (apply br_no; (· omega); conv => whnf)
      | fail
    refine Exists.intro (i + 1) (And.intro (And.intro ?_ ?_) ?_)
    · first | omega | skip
    · first | omega | skip
    conv => whnf
    repeat' first
      | apply True.intro
      | (apply ptr_and; (· kernel_rfl); conv => whnf)
      | omega
      | (apply Or.inr; rfl)
      | (apply or_row; (· rfl); (· rfl); rfl)
      | (apply And.intro <;> conv => whnf)
      | fail
def eArg : Env := ⟨tbl, [], [], [], [(0, [0]), (1, [0, 5]), (2, [2]), (3, [2])]⟩
theorem arg_ok {na : Option Bool} {l : List Int} (hl : l.length ≤ 4096) (hw : I32s l) : Impl Try.prog 55 [.sl none na 1 false (ints .i32 l)] (.i .i64 (argN l l.length)) := by
  by_cases h0 : 0 < l.length
  · have a1 := argN_in l l.length
    have a2 := argN_top l l.length h0
    obtain ⟨m, hm⟩ : ∃ m : Nat, argN l l.length = m := ⟨(argN l l.length).toNat, by omega⟩
    have hi := fun {na : Option Bool} => index_ok (na := na) (l := l) (v := sTop l) (m := m) hl (by omega) (by rw [hm, Int.toNat_natCast] at a2; exact a2) (fun j hj => argN_least l l.length j (by omega))
    have hmx := fun {na : Option Bool} => max_ok (na := na) h0 hl hw
    rw [hm]
    generalize sTop l = v at *
    refine impl_of (fn := Try.f55) tbl_ok (by kernel_rfl) (by kernel_rfl) rfl ⟨by simp [Try.f55], by decide⟩ rfl fun W0 => ?_
    repeat' first
      | apply WP.seq
      | (apply WP.region (E := eArg) mixed tbl_ok; conv => whnf)
      | (apply WP.cond; conv => whnf)
      | (apply WP.skip; conv => whnf)
      | (apply WP.ret; conv => whnf)
      | (apply reg_and; (· kernel_rfl); conv => whnf)
      | (apply ex_and; (· with_reducible exact hmx); conv => whnf)
      | (apply ex_and; (· with_reducible exact hi); conv => whnf)
      | (apply ex_ilen; conv => whnf)
      | (apply ex_eq; conv => whnf)
      | (apply And.intro; (· first | with_reducible rfl | exact trivial | exact Or.inl ⟨rfl, rfl⟩ | exact Or.inr rfl | decide | omega | (apply Nat.le_of_ble_eq_true; rfl) | (dsimp only; omega) | (simp only [ints_len, gl_len, mp_len, List.length_cons, List.length_nil, List.length_drop, List.length_take]; omega)); conv => whnf)
      | (apply br_no; (· omega); conv => whnf)
      | fail
  · have e : l = [] := List.length_eq_zero_iff.1 (by omega)
    subst e
    refine impl_of (fn := Try.f55) tbl_ok (by kernel_rfl) (by kernel_rfl) rfl ⟨by simp [Try.f55], by decide⟩ rfl fun W0 => ?_
    repeat' first
      | apply WP.seq
      | (apply WP.region (E := eArg) mixed tbl_ok; conv => whnf)
      | (apply WP.cond; conv => whnf)
      | (apply WP.ret; conv => whnf)
      | (apply reg_and; (· kernel_rfl); conv => whnf)
      | (apply ex_ilen; conv => whnf)
      | (apply ex_eq; conv => whnf)
      | (apply And.intro; (· first | with_reducible rfl | exact trivial | exact Or.inl ⟨rfl, rfl⟩ | exact Or.inr rfl | decide | omega | (apply Nat.le_of_ble_eq_true; rfl) | (dsimp only; omega) | (simp only [ints_len, gl_len, mp_len, List.length_cons, List.length_nil, List.length_drop, List.length_take]; omega)); conv => whnf)
      | (apply br_t; conv => whnf)
      | fail
    all_goals first | rfl | omega
def eNext10 : Env := ⟨tbl, [], [], [], [(0, [0]), (1, [2])]⟩
theorem next10_ok {na : Option Bool} {l : List Int} (hl : l.length ≤ 4096) (hw : I32s l) : Impl Try.prog 27 [.sl none na 1 false (ints .i32 l)] (.i .i64 (argN l l.length)) := by
  have h := fun {na : Option Bool} => arg_ok (na := na) hl hw
  refine impl_of (fn := Try.f27) tbl_ok (by kernel_rfl) (by kernel_rfl) rfl ⟨by simp [Try.f27], by decide⟩ rfl fun W0 => ?_
  repeat' first
    | apply WP.seq
    | (apply WP.region (E := eNext10) mixed tbl_ok; conv => whnf)
    | (apply WP.ret; conv => whnf)
    | (apply reg_and; (· kernel_rfl); conv => whnf)
    | (apply ex_and; (· with_reducible exact h); conv => whnf)
    | (apply And.intro; (· first | with_reducible rfl | exact trivial | exact Or.inl ⟨rfl, rfl⟩ | exact Or.inr rfl | decide | omega | (apply Nat.le_of_ble_eq_true; rfl) | (dsimp only; omega) | (simp only [ints_len, gl_len, mp_len, List.length_cons, List.length_nil, List.length_drop, List.length_take]; omega)); conv => whnf)
    | fail
/-- 0, or the error of a request. -/
def asked (vocab : Int) (p : List Int) (most : Int) : Int := if prm vocab p ≠ 0 then prm vocab p else if most < 1 then 1 else if most > 128 - p.length then 2 else 0
def eAsked : Env := ⟨tbl, [], [], [], [(0, [1, 2, 3, 4999, 4000, 4001, 4002, 4003, 4004]), (1, [1, 2, 7]), (2, [1, 2, 7, 12]), (3, [6]), (4, [1, 2, 15]), (5, [6]), (6, [20]), (7, [6]), (8, [6])]⟩
theorem asked_ok {np : Option Bool} (c : Cfg) {p : List Int} (most : Int) (hl : p.length ≤ 1000000) : Impl Try.prog 23 [cfgA c, .sl none np 1 false (ints .i64 p), .i .i64 most] (.i .i64 (asked c.vocab p most)) := by
  have hP := fun {np : Option Bool} => prompt_ok (nt := np) c (t := p) hl
  unfold asked
  generalize prm c.vocab p = k at *
  refine impl_of (fn := Try.f23) tbl_ok (by kernel_rfl) (by kernel_rfl) rfl ⟨by simp [Try.f23], by decide⟩ rfl fun W0 => ?_
  repeat' first
    | apply WP.seq
    | (apply WP.region (E := eAsked) mixed tbl_ok; conv => whnf)
    | (apply WP.cond; conv => whnf)
    | (apply WP.skip; conv => whnf)
    | (apply WP.ret; conv => whnf)
    | (apply reg_and; (· kernel_rfl); conv => whnf)
    | (apply ex_and; (· with_reducible exact hP); conv => whnf)
    | (apply ex_ilen; conv => whnf)
    | (apply ex_i64; (· omega); conv => whnf)
    | (apply ex_eq; conv => whnf)
    | (apply And.intro; (· first | with_reducible rfl | exact trivial | exact Or.inl ⟨rfl, rfl⟩ | exact Or.inr rfl | decide | omega | (apply Nat.le_of_ble_eq_true; rfl) | (dsimp only; omega) | (simp only [ints_len, gl_len, mp_len, List.length_cons, List.length_nil, List.length_drop, List.length_take]; omega)); conv => whnf)
    | apply br_not
    | (apply br_dec <;> intro hbr <;> (first | rw [decide_eq_true hbr] | rw [decide_eq_false hbr] | skip) <;> conv => whnf)
    | omega
    | fail
  all_goals
    repeat' split
    all_goals first | rfl | contradiction | omega
theorem ovr_last {a : List Int} {most : Int} (h : ¬ most ≤ a.length) (h2 : 0 < a.length) : (a.getD ((a.length : Int) - 1).toNat 0 == 0) = decide (ovr a most) := by
  rw [show ((a.length : Int) - 1).toNat = a.length - 1 by omega]
  by_cases hz : a.getD (a.length - 1) 0 = 0
  · rw [decide_eq_true (show ovr a most by unfold ovr; omega)]; exact beq_iff_eq.2 hz
  · rw [decide_eq_false (show ¬ ovr a most by unfold ovr; omega)]; exact beq_eq_false_iff_ne.2 hz
def eOver : Env := ⟨tbl, [], [], [], [(0, [0, 1]), (1, [4])]⟩
theorem over_ok {na : Option Bool} {a : List Int} (most : Int) (hl : a.length ≤ 1000000) : Impl Try.prog 25 [.sl none na 1 false (ints .i64 a), .i .i64 most] (.b (decide (ovr a most))) := by
  refine impl_of (fn := Try.f25) tbl_ok (by kernel_rfl) (by kernel_rfl) rfl ⟨by simp [Try.f25], by decide⟩ rfl fun W0 => ?_
  repeat' first
    | apply WP.seq
    | (apply WP.region (E := eOver) mixed tbl_ok; conv => whnf)
    | (apply WP.ret; conv => whnf)
    | (apply reg_and; (· kernel_rfl); conv => whnf)
    | (apply ex_ilen; conv => whnf)
    | (apply ex_i64; (· omega); conv => whnf)
    | (apply ex_ints; (· omega); conv => whnf)
    | (apply ex_eq; conv => whnf)
    | ((with_reducible apply gd_t); conv => whnf)
    | ((with_reducible apply gd_f); conv => whnf)
    | (apply gd_br)
    | (apply nd_ints; (· omega); conv => whnf)
    | (apply And.intro; (· first | with_reducible rfl | exact trivial | exact Or.inl ⟨rfl, rfl⟩ | exact Or.inr rfl | decide | omega | (apply Nat.le_of_ble_eq_true; rfl) | (dsimp only; omega) | (simp only [ints_len, gl_len, mp_len, List.length_cons, List.length_nil, List.length_drop, List.length_take]; omega)); conv => whnf)
    | (apply br_dec <;> intro hbr <;> (first | rw [decide_eq_true hbr] | rw [decide_eq_false hbr] | skip) <;> conv => whnf)
    | fail
  all_goals first
    | exact (decide_eq_true (by unfold ovr; omega)).symm
    | exact (decide_eq_false (by unfold ovr; omega)).symm
    | exact ovr_last (by omega) (by omega)
end Go.Proofs.Ytjihjjbieeofdaa.T
namespace Go.Proofs.Ytjihjjbieeofdaa.T
set_option linter.unusedSimpArgs false
set_option linter.unusedVariables false
open Go
set_option linter.unusedVariables false
set_option maxHeartbeats 8000000
set_option maxRecDepth 100000
/-- From nothing on. -/
theorem all_fresh {nt : Option Bool} {c : Cfg} {V D n H L s : Nat} {w : Wts} {u : List Int} (hc : CfgG c V D n H L s) (hg : WtsG V D H L w) (hu : prm c.vocab u = 0) : Impl Try.prog 38 [cfgA c, wtsA none none w, viewZ, .sl none nt 1 false (ints .i64 u)] (.tup [viewA none u (vK D H s w u) (vV D H s w u), rowA none (sFull V D H s w u), .i .i64 0]) := by
  have hl := (prm_zero hu).2.1
  exact all_ok (nt := nt) (n1 := some true) (n2 := some true) (n3 := some true) (t := []) hc hg (fun x hx => by cases hx) hu (by rw [List.length_nil]; omega)
def eRun : Env := ⟨tbl, [57], [], [50], [(0, [2, 3, 4, 5, 5999, 5000, 5001, 5002, 5003, 5004, 6999, 6000, 6001, 6002, 6003, 6004, 6005, 6006, 6007]), (1, [2, 3, 4, 5, 10, 5999, 5000, 5001, 5002, 5003, 5004, 6999, 6000, 6001, 6002, 6003, 6004, 6005, 6006, 6007]), (2, [2, 3, 4, 5, 10, 21, 5999, 5000, 5001, 5002, 5003, 5004, 6999, 6000, 6001, 6002, 6003, 6004, 6005, 6006, 6007]), (3, [8, 9]), (4, [2, 3, 4, 5, 11, 5999, 5000, 5001, 5002, 5003, 5004, 6999, 6000, 6001, 6002, 6003, 6004, 6005, 6006, 6007]), (5, [2, 3, 4, 5, 11, 28, 5999, 5000, 5001, 5002, 5003, 5004, 6999, 6000, 6001, 6002, 6003, 6004, 6005, 6006, 6007]), (6, [8, 9]), (7, [3, 4, 5, 12, 13, 14, 5999, 5000, 5001, 5002, 5003, 5004, 6999, 6000, 6001, 6002, 6003, 6004, 6005, 6006, 6007, 13999, 13000, 13001, 13002]), (8, [3, 4, 5, 12, 13, 14, 40, 5999, 5000, 5001, 5002, 5003, 5004, 6999, 6000, 6001, 6002, 6003, 6004, 6005, 6006, 6007, 13999, 13000, 13001, 13002]), (9, [8, 9]), (10, [3, 4, 5, 12, 13, 15, 5999, 5000, 5001, 5002, 5003, 5004, 6999, 6000, 6001, 6002, 6003, 6004, 6005, 6006, 6007, 13999, 13000, 13001, 13002]), (11, [3, 4, 5, 12, 15, 16, 5999, 5000, 5001, 5002, 5003, 5004, 6999, 6000, 6001, 6002, 6003, 6004, 6005, 6006, 6007, 13999, 13000, 13001, 13002]), (12, [3, 4, 5, 12, 15, 16, 5999, 5000, 5001, 5002, 5003, 5004, 6999, 6000, 6001, 6002, 6003, 6004, 6005, 6006, 6007, 13999, 13000, 13001, 13002]), (13, [3, 4, 5, 12, 15, 16, 50, 5999, 5000, 5001, 5002, 5003, 5004, 6999, 6000, 6001, 6002, 6003, 6004, 6005, 6006, 6007, 13999, 13000, 13001, 13002]), (14, [8, 9]), (15, [3, 4, 5, 12, 13, 14, 15, 5999, 5000, 5001, 5002, 5003, 5004, 6999, 6000, 6001, 6002, 6003, 6004, 6005, 6006, 6007, 13999, 13000, 13001, 13002]), (16, [3, 4, 5, 12, 13, 14, 15, 62, 5999, 5000, 5001, 5002, 5003, 5004, 6999, 6000, 6001, 6002, 6003, 6004, 6005, 6006, 6007, 13999, 13000, 13001, 13002]), (17, [8, 9])]⟩
theorem run_asked {np : Option Bool} {c : Cfg} {w : Wts} {p : List Int} (most : Int) (hl : w.blocks.length ≤ 1000000) (hp : p.length ≤ 1000000) (h : chkW c w = 0) (h2 : asked c.vocab p most ≠ 0) : Impl Try.prog 31 [cfgA c, wtsA none none w, .sl none np 1 false (ints .i64 p), .i .i64 most] (.tup [.sl (some 0) none 1 false (ints .i64 []), .i .i64 (asked c.vocab p most)]) := by
  have hk := mcheck_ok c w hl
  rw [h] at hk
  have hA := fun {np : Option Bool} => asked_ok (np := np) c (p := p) most hp
  generalize asked c.vocab p most = k at *
  refine impl_of (fn := Try.f31) tbl_ok (by kernel_rfl) (by kernel_rfl) rfl ⟨by simp [Try.f31], by decide⟩ rfl fun W0 => ?_
  repeat' first
    | apply WP.seq
    | (apply WP.region (E := eRun) mixed tbl_ok; conv => whnf)
    | (apply WP.cond; conv => whnf)
    | (apply WP.skip; conv => whnf)
    | (apply WP.ret; conv => whnf)
    | (rw [fz_blks]; conv => whnf)
    | (apply reg_and; (· kernel_rfl); conv => whnf)
    | (apply ex_and; (· with_reducible exact hk); conv => whnf)
    | (apply ex_and; (· with_reducible exact hA); conv => whnf)
    | (apply ex_eq; conv => whnf)
    | (apply nodup_and; (· exact of_decide_eq_true (by kernel_rfl)); conv => whnf)
    | (apply And.intro; (· first | with_reducible rfl | exact trivial | exact Or.inl ⟨rfl, rfl⟩ | exact Or.inr rfl | decide | omega | (apply Nat.le_of_ble_eq_true; rfl) | (dsimp only; omega) | (simp only [ints_len, gl_len, mp_len, List.length_cons, List.length_nil, List.length_drop, List.length_take]; omega)); conv => whnf)
    | apply br_not
    | (apply br_t; conv => whnf)
    | (apply br_no; (· omega); conv => whnf)
    | fail
  repeat' first
    | apply True.intro
    | (apply Or.inl; rfl)
    | (apply Or.inr; apply And.intro; (· rfl); rfl)
    | (apply And.intro <;> conv => whnf)
    | (apply Nat.le_of_ble_eq_true; rfl)
    | fail
theorem asked_zero {v : Int} {p : List Int} {most : Int} (h : asked v p most = 0) : prm v p = 0 ∧ 1 ≤ most ∧ most ≤ 128 - p.length := by
  unfold asked at h
  repeat' split at h
  all_goals omega
theorem run_ok {np : Option Bool} {c : Cfg} {V D n H L s : Nat} {w : Wts} {p : List Int} {most : Int} {k : Nat} (hc : CfgG c V D n H L s) (hg : WtsG V D H L w) (ha : asked c.vocab p most = 0) (he : Ends V D H s w p most k) : Impl Try.prog 31 [cfgA c, wtsA none none w, .sl none np 1 false (ints .i64 p), .i .i64 most] (.tup [.sl (some 0) none 1 false (ints .i64 (ans V D H s w p k)), .i .i64 0]) := by
  obtain ⟨hp, hm1, hm2⟩ := asked_zero ha
  obtain ⟨p1, p2, p3⟩ := prm_zero hp
  have hck := mcheck_ok c w (by have := hg.layers; have := hc.gl; omega)
  rw [chkW_of hc hg] at hck
  have hA := fun {np : Option Bool} => asked_ok (np := np) c (p := p) most (by omega)
  rw [ha] at hA
  have hV := hc.gv
  obtain ⟨Tn, hTn⟩ : ∃ Tn : Nat → List Int, ∀ i, Tn i = p ++ ans V D H s w p i := ⟨_, fun _ => rfl⟩
  have hT0 : Tn 0 = p := by rw [hTn]; exact List.append_nil _
  have hTl : ∀ i, (Tn i).length = p.length + i := fun i => by rw [hTn, List.length_append, ans_len]
  have hTv : ∀ i, ∀ x ∈ Tn i, 0 ≤ x ∧ x < (V : Int) := fun i x hx => by
    rw [hTn] at hx
    rcases List.mem_append.1 hx with hx | hx
    · have := p3 x hx; omega
    · exact ans_in (by omega) i x hx
  have hTs : ∀ i, Tn i ++ [nx V D H s w (Tn i)] = Tn (i + 1) := fun i => by
    rw [hTn (i + 1)]; unfold ans; rw [hTn i, List.append_assoc]
  have hAs : ∀ i, ans V D H s w p i ++ [nx V D H s w (Tn i)] = ans V D H s w p (i + 1) := fun i => by
    rw [hTn i]; rfl
  have hN : ∀ {nt : Option Bool}, Impl Try.prog 38 [cfgA c, wtsA none none w, viewZ, .sl none nt 1 false (ints .i64 p)] (.tup [viewA none (Tn 0) (vK D H s w (Tn 0)) (vV D H s w (Tn 0)), rowA none (sFull V D H s w (Tn 0)), .i .i64 0]) := fun {nt} => by rw [hT0]; exact all_fresh hc hg hp
  have hk1 := he.pos
  have hle := he.le
  refine impl_of (fn := Try.f31) tbl_ok (by kernel_rfl) (by kernel_rfl) rfl ⟨by simp [Try.f31], by decide⟩ rfl fun W0 => ?_
  repeat' first
    | apply WP.seq
    | (apply WP.region (E := eRun) mixed tbl_ok; conv => whnf)
    | (apply WP.cond; conv => whnf)
    | (apply WP.skip; conv => whnf)
    | apply WP.block
    | (rw [fz_blks]; conv => whnf)
    | (rw [fz_nil]; conv => whnf)
    | (apply reg_and; (· kernel_rfl); conv => whnf)
    | (apply ex_and; (· with_reducible exact hck); conv => whnf)
    | (apply ex_and; (· with_reducible exact hA); conv => whnf)
    | (apply ex_and; (· with_reducible exact hN); conv => whnf)
    | (apply ex_eq; conv => whnf)
    | (apply And.intro; (· first | with_reducible rfl | exact trivial | exact Or.inl ⟨rfl, rfl⟩ | exact Or.inr rfl | decide | omega | (apply Nat.le_of_ble_eq_true; rfl) | (dsimp only; omega) | (simp only [ints_len, gl_len, mp_len, List.length_cons, List.length_nil, List.length_drop, List.length_take]; omega)); conv => whnf)
    | apply br_not
    | (apply br_t; conv => whnf)
    | fail
  refine WP.loopM [13, 14, 15, 16, 50, 62, 13000, 13001, 13002] (fun i : Nat => [(13000, .sl none none 1 false (ints .i64 (Tn i))), (13001, rows3 none (vK D H s w (Tn i))), (13002, rows3 none (vV D H s w (Tn i))), (13, rowA none (sFull V D H s w (Tn i))), (15, .sl (some 0) none 1 false (ints .i64 (ans V D H s w p i)))]) (fun i => i < k) (fun i => k - i) 0 ?_
  conv => whnf
  refine And.intro (And.intro ?_ ?_) (fun i hi => ?_)
  · first | omega | trivial | skip
  · conv => whnf
    repeat' first
      | apply True.intro
      | (apply ptr_and; (· kernel_rfl); conv => whnf)
      | omega
      | (apply Or.inr; rfl)
      | (apply Or.inl; rfl)
      | (apply or_row; (· rfl); (· rfl); rfl)
      | (apply Or.inr; apply And.intro; (· rfl); rfl)
      | (apply And.intro <;> conv => whnf)
      | fail
  conv => whnf
  have hnx := nx_in (D := D) (H := H) (s := s) (w := w) (show 0 < V by omega) (Tn i)
  have hs := hTs i
  have has := hAs i
  have hl := hTl i
  have hal := ans_len V D H s w p i
  have hNx : ∀ {na : Option Bool}, Impl Try.prog 27 [.sl none na 1 false (ints .i32 (sFull V D H s w (Tn i)))] (.i .i64 (nx V D H s w (Tn i))) := fun {na} => by
    have := next10_ok (na := na) (l := sFull V D H s w (Tn i)) (by rw [sFull_len]; omega) (sFull_i32 _ _ _ _ _ _)
    rwa [sFull_len] at this
  obtain ⟨q, hq⟩ : ∃ q : Nat, nx V D H s w (Tn i) = q := ⟨(nx V D H s w (Tn i)).toNat, by omega⟩
  rw [hq] at hs has hNx hnx
  have hO := fun {na : Option Bool} => over_ok (na := na) (a := ans V D H s w p (i + 1)) most (by rw [ans_len]; omega)
  by_cases e : i + 1 = k
  · rw [e, decide_eq_true he.fin, ← e] at hO
    subst e
    repeat' first
      | apply WP.seq
      | (apply WP.region (E := eRun) mixed tbl_ok; conv => whnf)
      | (apply WP.cond; conv => whnf)
      | (apply WP.ret; conv => whnf)
      | apply WP.block
      | (rw [ints_snoc, has]; conv => whnf)
      | (apply reg_and; (· kernel_rfl); conv => whnf)
      | (apply ex_and; (· with_reducible exact hNx); conv => whnf)
      | (apply ex_and; (· with_reducible exact hO); conv => whnf)
      | (apply nodup_and; (· exact of_decide_eq_true (by kernel_rfl)); conv => whnf)
      | (apply And.intro; (· first | with_reducible rfl | exact trivial | exact Or.inl ⟨rfl, rfl⟩ | exact Or.inr rfl | decide | omega | (apply Nat.le_of_ble_eq_true; rfl) | (dsimp only; omega) | (simp only [ints_len, gl_len, mp_len, List.length_cons, List.length_nil, List.length_drop, List.length_take]; omega)); conv => whnf)
      | (apply br_t; conv => whnf)
      | fail
    repeat' first
      | apply True.intro
      | (apply Or.inl; rfl)
      | (apply or_row; (· rfl); (· rfl); rfl)
      | (apply And.intro <;> conv => whnf)
      | (apply Nat.le_of_ble_eq_true; rfl)
      | fail
  · rw [decide_eq_false (he.not _ (by omega))] at hO
    have hF := fun {n1 n2 n3 : Option Bool} => feed_ok (n1 := n1) (n2 := n2) (n3 := n3) (q := q) hc hg (hTv i) (by omega) (by omega)
    rw [hs] at hF
    clear hTs hAs hTv hg
    repeat' first
      | apply WP.seq
      | (apply WP.region (E := eRun) mixed tbl_ok; conv => whnf)
      | (apply WP.cond; conv => whnf)
      | (apply WP.skip; conv => whnf)
      | apply WP.block
      | (rw [ints_snoc, has]; conv => whnf)
      | (rw [fz_blks]; conv => whnf)
      | (rw [fz_rows3]; conv => whnf)
      | (rw [fz_rowsW]; conv => whnf)
      | (apply reg_and; (· kernel_rfl); conv => whnf)
      | (apply ex_and; (· with_reducible exact hNx); conv => whnf)
      | (apply ex_and; (· with_reducible exact hO); conv => whnf)
      | (apply ex_and; (· with_reducible exact hF); conv => whnf)
      | (apply ex_eq; conv => whnf)
      | (apply And.intro; (· first | with_reducible rfl | exact trivial | exact Or.inl ⟨rfl, rfl⟩ | exact Or.inr rfl | decide | omega | (apply Nat.le_of_ble_eq_true; rfl) | (dsimp only; omega) | (simp only [ints_len, gl_len, mp_len, List.length_cons, List.length_nil, List.length_drop, List.length_take]; omega)); conv => whnf)
      | apply br_not
      | (apply br_t; conv => whnf)
      | (apply br_f; conv => whnf)
      | fail
    refine Exists.intro (i + 1) (And.intro (And.intro ?_ ?_) ?_)
    · first | omega | skip
    · first | omega | skip
    conv => whnf
    repeat' first
      | apply True.intro
      | (apply ptr_and; (· kernel_rfl); conv => whnf)
      | omega
      | (apply Or.inr; rfl)
      | (apply Or.inl; rfl)
      | (apply or_row; (· rfl); (· rfl); rfl)
      | (apply And.intro <;> conv => whnf)
      | fail
def eAwake10 : Env := ⟨tbl, [], [], [], [(0, []), (1, [1, 2999, 2000, 2001, 2002, 2003, 2004]), (2, [1, 2, 3, 2999, 2000, 2001, 2002, 2003, 2004, 3999, 3000, 3001, 3002, 3003, 3004, 3005, 3006, 3007]), (3, [1, 2, 3, 4, 5, 2999, 2000, 2001, 2002, 2003, 2004, 3999, 3000, 3001, 3002, 3003, 3004, 3005, 3006, 3007]), (4, [3, 4, 5, 7]), (5, [0])]⟩
theorem awake10_ok : Impl Try.prog 22 [] (.b true) := by
  have hm : Impl Try.prog 36 [.agg [.i .i64 2, .i .i64 1, .i .i64 1, .i .i64 1, .i .i64 1], .i .u64 1] (.tup [wtsA (some 0) none (sMake 1 2 1 1 1), .i .i64 0]) := make_ok (seed := 1) (V := 2) (D := 1) (n := 1) (H := 1) (L := 1) (by decide) (by decide) (by decide) (by decide) (by decide)
  have hg : WtsG 2 1 1 1 (sMake 1 2 1 1 1) := make_good (by decide) (by decide) (by decide)
  generalize sMake 1 2 1 1 1 = w at *
  have hlen := hg.layers
  obtain ⟨k, hk⟩ := ends_ex (V := 2) (D := 1) (H := 1) (s := 1) (w := w) (p := [1]) (most := 1) (by decide)
  have hk1 : k = 1 := by have := hk.pos; have := hk.le; omega
  subst hk1
  have h1 : ∀ {np : Option Bool}, Impl Try.prog 31 [.agg [.i .i64 2, .i .i64 1, .i .i64 1, .i .i64 1, .i .i64 1], wtsA none none w, .sl none np 1 false [.i .i64 1], .i .i64 1] (.tup [.sl (some 0) none 1 false (ints .i64 (ans 2 1 1 1 w [1] 1)), .i .i64 0]) := fun {np} => run_ok (np := np) (p := [1]) made_cfg hg (by decide) hk
  have h2 : Impl Try.prog 31 [.agg [.i .i64 2, .i .i64 1, .i .i64 1, .i .i64 1, .i .i64 1], wtsA none none w, .sl none (some true) 0 false [], .i .i64 1] (.tup [.sl (some 0) none 1 false (ints .i64 []), .i .i64 8]) := by
    refine impl_le (run_asked (np := none) (c := ⟨2, 1, 1, 1, 1⟩) (w := w) (p := []) 1 (by omega) (by decide) (chkW_of made_cfg hg) (by decide)) ?_ rfl
    repeat' first
      | apply True.intro
      | (apply Or.inr; rfl)
      | (apply Or.inl; rfl)
      | (apply or_row; (· rfl); (· rfl); rfl)
      | (apply Or.inr; apply And.intro; (· rfl); rfl)
      | (apply And.intro <;> conv => whnf)
      | fail
  have h3 : ∀ {na : Option Bool}, Impl Try.prog 25 [.sl none na 1 false [.i .i64 0], .i .i64 9] (.b true) := fun {na} => over_ok (na := na) (a := [0]) 9 (by decide)
  have h4 : ∀ {na : Option Bool}, Impl Try.prog 27 [.sl none na 1 false [.i .i32 1, .i .i32 2, .i .i32 2]] (.i .i64 1) := fun {na} => next10_ok (na := na) (l := [1, 2, 2]) (by decide) (fun x hx => by rcases hx with _ | ⟨_, _ | ⟨_, _ | ⟨_, h⟩⟩⟩ <;> first | exact ⟨by decide, by decide⟩ | cases h)
  have hal := ans_len 2 1 1 1 w [1] 1
  generalize ans 2 1 1 1 w [1] 1 = a at *
  refine impl_of (fn := Try.f22) tbl_ok (by kernel_rfl) (by kernel_rfl) rfl ⟨by simp [Try.f22], by decide⟩ rfl fun W0 => ?_
  repeat' first
    | apply WP.seq
    | (apply WP.region (E := eAwake10) mixed tbl_ok; conv => whnf)
    | (apply WP.ret; conv => whnf)
    | (rw [fz_blks]; conv => whnf)
    | (apply reg_and; (· kernel_rfl); conv => whnf)
    | (apply ex_and; (· with_reducible exact hm); conv => whnf)
    | (apply ex_and; (· with_reducible exact h1); conv => whnf)
    | (apply ex_and; (· with_reducible exact h2); conv => whnf)
    | (apply ex_and; (· with_reducible exact h3); conv => whnf)
    | (apply ex_and; (· with_reducible exact h4); conv => whnf)
    | (apply ex_ilen; conv => whnf)
    | (apply ex_eq; conv => whnf)
    | ((with_reducible apply gd_t); conv => whnf)
    | (apply gd_br)
    | (apply And.intro; (· first | with_reducible rfl | exact trivial | exact Or.inl ⟨rfl, rfl⟩ | exact Or.inr rfl | decide | omega | (apply Nat.le_of_ble_eq_true; rfl) | (dsimp only; omega) | (simp only [ints_len, gl_len, mp_len, List.length_cons, List.length_nil, List.length_drop, List.length_take]; omega)); conv => whnf)
    | (apply br_t; conv => whnf)
    | (apply br_yes; (· omega); conv => whnf)
    | fail
  exact rfl
end Go.Proofs.Ytjihjjbieeofdaa.T

