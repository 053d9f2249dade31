/- What functions of the program come to, on trees. No condition but those that the theorems name. -/
import Derived.Test.YtjihjjbieeofdaaPK7
namespace Go.Proofs.Ytjihjjbieeofdaa.T
set_option linter.unusedSimpArgs false
set_option linter.unusedVariables false
open Go
set_option linter.unusedVariables false
set_option maxHeartbeats 8000000
set_option maxRecDepth 100000
/-- Whether a row is nil need not be known. -/
theorem take_snoc {α : Type} {l : List α} {i : Nat} (d : α) (h : i < l.length) : l.take (i + 1) = l.take i ++ [l.getD i d] := by
  rw [List.take_add_one, List.getD_eq_getElem?_getD, List.getElem?_eq_getElem h]; rfl
theorem rw_nil {w : World} {F : Nat → Prop} {sz : Nat} {dp : Bool} {l : List AV} {v : Value} (h : RW w F (.sl none none sz dp l) v []) : ∃ b, (b = true → l = []) ∧ RW w F (.sl none (some b) sz dp l) v [] := by
  have h1 : Rp w F (.sl none none sz dp l) [v] [] := h
  cases h1 with
  | @fz A _ _ _ _ cap b off cs hc hm hn h0 hA hl hr hd hw =>
    refine ⟨A.isNone, fun e => ?_, ?_⟩
    · cases A with
      | none => exact (h0 rfl).1
      | some a => cases e
    · refine (Rp.fz (nil := some A.isNone) hc hm (fun x hx => ?_) h0 hA hl hr hd hw : Rp w F _ [.slice A l.length cap] [])
      cases hx
      cases A <;> simp
theorem impl_nil1 {P : Program} {f : Nat} {sz : Nat} {dp : Bool} {l : List AV} {r : AV} (h : ∀ b : Bool, (b = true → l = []) → Impl P f [.sl none (some b) sz dp l] r) : Impl P f [.sl none none sz dp l] r := by
  have h0 := (h false (fun e => by cases e)).f (fun e he l => by cases he; intro e'; cases e')
  refine headOk_impl rfl ⟨h0.fn, fun F w vs hs hv hF => ?_⟩
  have hs1 : vs.size = 1 := hs
  obtain ⟨b, hb1, hb2⟩ := rw_nil (hv 0 _ (vs[0]'(by omega)) rfl (Array.getElem?_eq_getElem (by omega)))
  refine ((h b hb1).f (fun e he l => by cases he; intro e'; cases e')).calls F w vs hs (fun j e v he hv2 => ?_) hF
  cases j with
  | zero =>
    cases he
    rw [Array.getElem?_eq_getElem (by omega)] at hv2
    cases hv2
    exact hb2
  | succ j => cases he
def eCl1 : Env := ⟨tbl, [], [], [], [(0, [0]), (1, [0, 4]), (2, [2]), (3, [2])]⟩
theorem clone1_ok {nl : Option Bool} {l : List Int} (hl : l.length ≤ 1000000) : Impl Try.prog 48 [.sl none nl 1 false (ints .i64 l)] (.sl (some 0) none 1 false (ints .i64 l)) := by
  have hb : ∀ b : Bool, (b = true → ints .i64 l = []) → Impl Try.prog 48 [.sl none (some b) 1 false (ints .i64 l)] (.sl (some 0) none 1 false (ints .i64 l)) := fun b hb => by
    cases b with
    | true =>
      rw [hb rfl]
      refine impl_of (fn := Try.f48) tbl_ok (by kernel_rfl) (by kernel_rfl) rfl ⟨by simp [Try.f48], by decide⟩ rfl fun W0 => ?_
      repeat' first
        | apply WP.seq
        | (apply WP.region (E := eCl1) mixed tbl_ok; conv => whnf)
        | (apply WP.cond; conv => whnf)
        | (apply WP.ret; conv => whnf)
        | (apply reg_and; (· kernel_rfl); conv => whnf)
        | (apply And.intro; (· first | with_reducible rfl | exact trivial | exact Or.inl ⟨rfl, rfl⟩ | exact Or.inr rfl | decide | omega | (apply Nat.le_of_ble_eq_true; rfl) | (dsimp only; omega) | (simp only [ints_len, gl_len, mp_len, List.length_cons, List.length_nil, List.length_drop, List.length_take]; omega)); conv => whnf)
        | (apply br_t; conv => whnf)
        | fail
      repeat' first
        | (apply Or.inr; apply And.intro; (· rfl); rfl)
        | fail
    | false =>
      refine impl_of (fn := Try.f48) tbl_ok (by kernel_rfl) (by kernel_rfl) rfl ⟨by simp [Try.f48], by decide⟩ rfl fun W0 => ?_
      repeat' first
        | (rw [List.nil_append]; conv => whnf)
        | apply WP.seq
        | (apply WP.region (E := eCl1) mixed tbl_ok; conv => whnf)
        | (apply WP.cond; conv => whnf)
        | (apply WP.skip; conv => whnf)
        | (apply WP.ret; conv => whnf)
        | (apply reg_and; (· kernel_rfl); conv => whnf)
        | (apply And.intro; (· first | with_reducible rfl | exact trivial | exact Or.inl ⟨rfl, rfl⟩ | exact Or.inr rfl | decide | omega | (apply Nat.le_of_ble_eq_true; rfl) | (dsimp only; omega) | (simp only [ints_len, gl_len, mp_len, List.length_cons, List.length_nil, List.length_drop, List.length_take]; omega)); conv => whnf)
        | (apply br_f; conv => whnf)
        | fail
      repeat' first
        | (apply Or.inl; rfl)
        | (apply or_row; (· rfl); (· rfl); rfl)
        | (apply And.intro <;> conv => whnf)
        | fail
  refine impl_le (impl_nil1 hb) ?_ rfl
  exact ⟨⟨rfl, .inl rfl, .inl ⟨rfl, rfl, rfl⟩⟩, trivial⟩
def eCl2 : Env := ⟨tbl, [], [], [], [(0, [0]), (1, [0, 4]), (2, [2]), (3, [2])]⟩
theorem clone2_ok {nl : Option Bool} {l : List Int} (hl : l.length ≤ 1000000) : Impl Try.prog 76 [.sl none nl 1 false (ints .i32 l)] (rowA (some 0) l) := by
  have hb : ∀ b : Bool, (b = true → ints .i32 l = []) → Impl Try.prog 76 [.sl none (some b) 1 false (ints .i32 l)] (rowA (some 0) l) := fun b hb => by
    cases b with
    | true =>
      rw [rowA, hb rfl]
      refine impl_of (fn := Try.f76) tbl_ok (by kernel_rfl) (by kernel_rfl) rfl ⟨by simp [Try.f76], by decide⟩ rfl fun W0 => ?_
      repeat' first
        | apply WP.seq
        | (apply WP.region (E := eCl2) mixed tbl_ok; conv => whnf)
        | (apply WP.cond; conv => whnf)
        | (apply WP.ret; conv => whnf)
        | (apply reg_and; (· kernel_rfl); conv => whnf)
        | (apply And.intro; (· first | with_reducible rfl | exact trivial | exact Or.inl ⟨rfl, rfl⟩ | exact Or.inr rfl | decide | omega | (apply Nat.le_of_ble_eq_true; rfl) | (dsimp only; omega) | (simp only [ints_len, gl_len, mp_len, List.length_cons, List.length_nil, List.length_drop, List.length_take]; omega)); conv => whnf)
        | (apply br_t; conv => whnf)
        | fail
      repeat' first
        | (apply Or.inr; apply And.intro; (· rfl); rfl)
        | fail
    | false =>
      refine impl_of (fn := Try.f76) tbl_ok (by kernel_rfl) (by kernel_rfl) rfl ⟨by simp [Try.f76], by decide⟩ rfl fun W0 => ?_
      repeat' first
        | (rw [List.nil_append]; conv => whnf)
        | apply WP.seq
        | (apply WP.region (E := eCl2) mixed tbl_ok; conv => whnf)
        | (apply WP.cond; conv => whnf)
        | (apply WP.skip; conv => whnf)
        | (apply WP.ret; conv => whnf)
        | (apply reg_and; (· kernel_rfl); conv => whnf)
        | (apply And.intro; (· first | with_reducible rfl | exact trivial | exact Or.inl ⟨rfl, rfl⟩ | exact Or.inr rfl | decide | omega | (apply Nat.le_of_ble_eq_true; rfl) | (dsimp only; omega) | (simp only [ints_len, gl_len, mp_len, List.length_cons, List.length_nil, List.length_drop, List.length_take]; omega)); conv => whnf)
        | (apply br_f; conv => whnf)
        | fail
      repeat' first
        | (apply Or.inl; rfl)
        | (apply or_row; (· rfl); (· rfl); rfl)
        | (apply And.intro <;> conv => whnf)
        | fail
  refine impl_le (impl_nil1 hb) ?_ rfl
  exact ⟨⟨rfl, .inl rfl, .inl ⟨rfl, rfl, rfl⟩⟩, trivial⟩
/-- So many rows of so many numbers. -/
def rowsC (n d : Int) (l : List (List Int)) : Prop := (∀ r ∈ l, (r.length : Int) = d) ∧ (l.length : Int) = n
instance (n d : Int) (l : List (List Int)) : Decidable (rowsC n d l) := by unfold rowsC; infer_instance
def eRows9 : Env := ⟨tbl, [], [], [], [(0, [0, 1, 2]), (1, [0, 1, 2, 9, 10, 11]), (2, [0, 1, 2, 9, 10, 11, 12]), (3, [0, 1, 2, 8, 9, 10, 11]), (4, [0, 1, 2, 9, 10, 11, 18]), (5, [6]), (6, [0, 1, 2, 9, 10, 11]), (7, [6])]⟩
theorem rows9_ok {nl : Option Bool} {n d : Int} {l : List (List Int)} (hl : l.length ≤ 1000000) : Impl Try.prog 93 [.sl none nl 1 true (gl (rowA none) l), .i .i64 n, .i .i64 d] (.b (decide (rowsC n d l))) := by
  refine impl_of (fn := Try.f93) tbl_ok (by kernel_rfl) (by kernel_rfl) rfl ⟨by simp [Try.f93], by decide⟩ rfl fun W0 => ?_
  repeat' first
    | apply WP.seq
    | (apply WP.region (E := eRows9) mixed tbl_ok; conv => whnf)
    | apply WP.block
    | (apply reg_and; (· kernel_rfl); conv => whnf)
    | (apply ex_glen; conv => whnf)
    | fail
  refine WP.loopM [8, 11, 12, 18] (fun i : Nat => [(11, .i .i64 i)]) (fun i => i ≤ l.length ∧ ∀ j, j < i → ((l.getD j []).length : Int) = d) (fun i => l.length - i) 0 ?_
  conv => whnf
  refine And.intro (And.intro ?_ ?_) (fun i hi => ?_)
  · exact ⟨by omega, fun j hj => absurd hj (by omega)⟩
  · conv => whnf
    repeat' first
      | apply True.intro
      | (apply ptr_and; (· kernel_rfl); conv => whnf)
      | omega
      | (apply Or.inr; rfl)
      | (apply or_row; (· rfl); (· rfl); rfl)
      | (apply And.intro <;> conv => whnf)
      | fail
  conv => whnf
  obtain ⟨hi1, hi2⟩ := hi
  have ha := fun h => gl_at (f := rowA none) (l := l) (i := i) [] h
  have hm := fun h => getD_in (l := l) (i := i) [] h
  obtain ⟨x, hx⟩ : ∃ x, x = l.getD i [] := ⟨_, rfl⟩
  rw [← hx] at ha hm
  repeat' first
    | apply WP.seq
    | (apply WP.region (E := eRows9) mixed tbl_ok; conv => whnf)
    | (apply WP.cond; conv => whnf)
    | (apply WP.skip; conv => whnf)
    | (apply WP.ret; conv => whnf)
    | (apply WP.exit; conv => whnf)
    | apply WP.block
    | (apply ex_at (ha (by omega)); conv => whnf)
    | (apply reg_and; (· kernel_rfl); conv => whnf)
    | (apply ex_ilen; conv => whnf)
    | (apply ex_glen; conv => whnf)
    | (apply ex_i64; (· omega); conv => whnf)
    | (apply ex_eq; conv => whnf)
    | (apply nd_gl; (· omega); conv => whnf)
    | (apply And.intro; (· first | with_reducible rfl | exact trivial | exact Or.inl ⟨rfl, rfl⟩ | exact Or.inr rfl | decide | omega | (apply Nat.le_of_ble_eq_true; rfl) | (dsimp only; omega) | (simp only [ints_len, gl_len, mp_len, List.length_cons, List.length_nil, List.length_drop, List.length_take]; omega)); conv => whnf)
    | apply br_not
    | (apply br_dec <;> intro hbr <;> (first | rw [decide_eq_true hbr] | rw [decide_eq_false hbr] | skip) <;> conv => whnf)
    | fail
  · refine Exists.intro (i + 1) (And.intro (And.intro ⟨by omega, fun j hj => ?_⟩ (by omega)) ?_)
    · by_cases e : j = i
      · subst e; rw [← hx]; omega
      · exact hi2 j (by omega)
    · conv => whnf
      repeat' first
        | apply True.intro
        | (apply ptr_and; (· kernel_rfl); conv => whnf)
        | omega
        | (apply Or.inr; rfl)
        | (apply or_row; (· rfl); (· rfl); rfl)
        | (apply And.intro <;> conv => whnf)
        | fail
  · exact (decide_eq_false fun e => absurd (e.1 x (hm (by omega))) (by assumption)).symm
  · have hall : ∀ r ∈ l, (r.length : Int) = d := fun r hr => by
      obtain ⟨j, hj⟩ := List.mem_iff_getElem?.1 hr
      have := hi2 j (by have := lt_of_get hj; omega)
      rwa [List.getD_eq_getElem?_getD, hj] at this
    by_cases e : (l.length : Int) = n
    · rw [decide_eq_true (show rowsC n d l from ⟨hall, e⟩)]; exact beq_iff_eq.2 e
    · rw [decide_eq_false (fun h : rowsC n d l => e h.2)]; exact beq_eq_false_iff_ne.2 e
/-- Sizes of a view's rows. -/
def Siz3 (K : List (List (List Int))) : Prop := K.length ≤ 1000000 ∧ ∀ r ∈ K, r.length ≤ 1000000 ∧ ∀ x ∈ r, x.length ≤ 1000000
end Go.Proofs.Ytjihjjbieeofdaa.T
namespace Go.Proofs.Ytjihjjbieeofdaa.T
set_option linter.unusedSimpArgs false
set_option linter.unusedVariables false
open Go
set_option linter.unusedVariables false
set_option maxHeartbeats 8000000
set_option maxRecDepth 100000
/-- A view that fits. -/
structure VwG (V D L : Nat) (t : List Int) (K W : List (List (List Int))) : Prop where
  toks : ∀ x ∈ t, 0 ≤ x ∧ x < (V : Int)
  len : t.length ≤ 128
  num : (t.length = 0 ∧ K.length = 0 ∧ W.length = 0) ∨ (0 < t.length ∧ K.length = L ∧ W.length = L)
  keys : ∀ r ∈ K, r.length = t.length ∧ RowsN D r
  vals : ∀ r ∈ W, r.length = t.length ∧ RowsN D r
def eFits9 : Env := ⟨tbl, [], [], [], [(0, [2, 3, 3999, 3000, 3001, 3002, 3003, 3004, 4999, 4000, 4001, 4002]), (1, [2, 3, 11, 12, 13, 3999, 3000, 3001, 3002, 3003, 3004, 4999, 4000, 4001, 4002]), (2, [2, 3, 11, 12, 13, 14, 3999, 3000, 3001, 3002, 3003, 3004, 4999, 4000, 4001, 4002]), (3, [2, 3, 6, 11, 12, 13, 3999, 3000, 3001, 3002, 3003, 3004, 4999, 4000, 4001, 4002]), (4, [2, 3, 11, 12, 13, 24, 3999, 3000, 3001, 3002, 3003, 3004, 4999, 4000, 4001, 4002]), (5, [4]), (6, [2, 3, 11, 12, 13, 3999, 3000, 3001, 3002, 3003, 3004, 4999, 4000, 4001, 4002]), (7, [2, 3, 7, 3999, 3000, 3001, 3002, 3003, 3004, 4999, 4000, 4001, 4002]), (8, [2, 3, 7, 30, 3999, 3000, 3001, 3002, 3003, 3004, 4999, 4000, 4001, 4002]), (9, [4]), (10, [2, 3, 7, 62, 3999, 3000, 3001, 3002, 3003, 3004, 4999, 4000, 4001, 4002]), (11, [4]), (12, [2, 3, 7, 65, 66, 67, 3999, 3000, 3001, 3002, 3003, 3004, 4999, 4000, 4001, 4002]), (13, [2, 3, 7, 65, 66, 67, 68, 3999, 3000, 3001, 3002, 3003, 3004, 4999, 4000, 4001, 4002]), (14, [2, 3, 7, 8, 9, 65, 66, 67, 3999, 3000, 3001, 3002, 3003, 3004, 4999, 4000, 4001, 4002]), (15, [2, 3, 7, 65, 66, 67, 90, 3999, 3000, 3001, 3002, 3003, 3004, 4999, 4000, 4001, 4002]), (16, [4]), (17, [2, 3, 7, 65, 66, 67, 3999, 3000, 3001, 3002, 3003, 3004, 4999, 4000, 4001, 4002]), (18, [4])]⟩
theorem fits9_ok {n1 n2 n3 : Option Bool} {c : Cfg} {V D n H L s : Nat} {t : List Int} {K W : List (List (List Int))} (hc : CfgG c V D n H L s) (hg : VwG V D L t K W) : Impl Try.prog 68 [cfgA c, .agg [.sl none n1 1 false (ints .i64 t), .sl none n2 1 true (gl (rowsA none) K), .sl none n3 1 true (gl (rowsA none) W)]] (.b true) := by
  obtain ⟨c1, c2, c3, c4, c5⟩ := c
  obtain ⟨g1, g2, g3, g4, g5, g6⟩ := hc
  obtain ⟨rfl, h1⟩ := g1
  obtain ⟨rfl, h2⟩ := g2
  obtain ⟨rfl, h5⟩ := g5
  obtain ⟨v1, v2, v3, v4, v5⟩ := hg
  clear g3 g4 g6
  rw [cfgA_eq]
  refine impl_of (fn := Try.f68) tbl_ok (by kernel_rfl) (by kernel_rfl) rfl ⟨by simp [Try.f68], by decide⟩ rfl fun W0 => ?_
  repeat' first
    | apply WP.seq
    | (apply WP.region (E := eFits9) mixed tbl_ok; conv => whnf)
    | apply WP.block
    | (apply reg_and; (· kernel_rfl); conv => whnf)
    | (apply ex_ilen; conv => whnf)
    | fail
  refine WP.loopM [6, 13, 14, 24] (fun i : Nat => [(13, .i .i64 i)]) (fun i => i ≤ t.length) (fun i => t.length - i) 0 ?_
  conv => whnf
  refine And.intro (And.intro ?_ ?_) (fun i hi => ?_)
  · first | omega | trivial | skip
  · conv => whnf
    repeat' first
      | apply True.intro
      | (apply ptr_and; (· kernel_rfl); conv => whnf)
      | omega
      | (apply Or.inr; rfl)
      | (apply or_row; (· rfl); (· rfl); rfl)
      | (apply And.intro <;> conv => whnf)
      | fail
  conv => whnf
  have hx := fun h : i < t.length => v1 _ (getD_in (l := t) (i := i) 0 h)
  obtain ⟨x, hxe⟩ : ∃ x, x = t.getD i 0 := ⟨_, rfl⟩
  rw [← hxe] at hx
  by_cases hi2 : i < t.length
  · have hx2 := hx hi2
    repeat' first
      | apply WP.seq
      | (apply WP.region (E := eFits9) mixed tbl_ok; conv => whnf)
      | (apply WP.cond; conv => whnf)
      | (apply WP.skip; conv => whnf)
      | apply WP.block
      | (apply ex_ints; (· omega); rw [Int.toNat_natCast, ← hxe]; conv => whnf)
      | (apply reg_and; (· kernel_rfl); conv => whnf)
      | (apply ex_i64; (· omega); conv => whnf)
      | (apply ex_eq; conv => whnf)
      | (apply gd_br)
      | (apply nd_ints; (· omega); conv => whnf)
      | (apply And.intro; (· first | with_reducible rfl | exact trivial | exact Or.inl ⟨rfl, rfl⟩ | exact Or.inr rfl | decide | omega | (apply Nat.le_of_ble_eq_true; rfl) | (dsimp only; omega) | (simp only [ints_len, gl_len, mp_len, List.length_cons, List.length_nil, List.length_drop, List.length_take]; omega)); conv => whnf)
      | (apply br_yes; (· omega); conv => whnf)
      | (apply br_no; (· omega); conv => whnf)
      | fail
    refine Exists.intro (i + 1) (And.intro (And.intro (by omega) (by omega)) ?_)
    conv => whnf
    repeat' first
      | apply True.intro
      | (apply ptr_and; (· kernel_rfl); conv => whnf)
      | omega
      | (apply Or.inr; rfl)
      | (apply or_row; (· rfl); (· rfl); rfl)
      | (apply And.intro <;> conv => whnf)
      | fail
  repeat' first
    | apply WP.seq
    | (apply WP.region (E := eFits9) mixed tbl_ok; conv => whnf)
    | (apply WP.cond; conv => whnf)
    | (apply WP.skip; conv => whnf)
    | (apply WP.ret; conv => whnf)
    | (apply WP.exit; conv => whnf)
    | apply WP.block
    | (apply reg_and; (· kernel_rfl); conv => whnf)
    | (apply ex_ilen; conv => whnf)
    | (apply ex_glen; conv => whnf)
    | (apply ex_eq; conv => whnf)
    | (apply gd_br)
    | (apply And.intro; (· first | with_reducible rfl | exact trivial | exact Or.inl ⟨rfl, rfl⟩ | exact Or.inr rfl | decide | omega | (apply Nat.le_of_ble_eq_true; rfl) | (dsimp only; omega) | (simp only [ints_len, gl_len, mp_len, List.length_cons, List.length_nil, List.length_drop, List.length_take]; omega)); conv => whnf)
    | apply br_not
    | (apply br_yes; (· omega); conv => whnf)
    | (apply br_no; (· omega); conv => whnf)
    | (apply br_dec <;> intro hbr <;> (first | rw [decide_eq_true hbr] | rw [decide_eq_false hbr] | skip) <;> conv => whnf)
    | fail
  · exact beq_iff_eq.2 (by omega)
  refine WP.loopM [8, 9, 67, 68, 90] (fun j : Nat => [(67, .i .i64 j)]) (fun j => j ≤ K.length) (fun j => K.length - j) 0 ?_
  conv => whnf
  refine And.intro (And.intro ?_ ?_) (fun j hj => ?_)
  · first | omega | trivial | skip
  · conv => whnf
    repeat' first
      | apply True.intro
      | (apply ptr_and; (· kernel_rfl); conv => whnf)
      | omega
      | (apply Or.inr; rfl)
      | (apply or_row; (· rfl); (· rfl); rfl)
      | (apply And.intro <;> conv => whnf)
      | fail
  conv => whnf
  have ha := fun h => gl_at (f := rowsA none) (l := K) (i := j) [] h
  have hb := fun h => gl_at (f := rowsA none) (l := W) (i := j) [] h
  have hka := fun h => v4 _ (getD_in (l := K) (i := j) [] h)
  have hkb := fun h => v5 _ (getD_in (l := W) (i := j) [] h)
  obtain ⟨x, hx⟩ : ∃ x, x = K.getD j [] := ⟨_, rfl⟩
  obtain ⟨y, hy⟩ : ∃ y, y = W.getD j [] := ⟨_, rfl⟩
  rw [← hx] at ha hka
  rw [← hy] at hb hkb
  by_cases hj2 : j < K.length
  · have hk := hka hj2
    have hl := hkb (by omega)
    have ex : rowsC t.length D x := ⟨fun r hr => by rw [(hk.2 r hr).1], by rw [hk.1]⟩
    have ey : rowsC t.length D y := ⟨fun r hr => by rw [(hl.2 r hr).1], by rw [hl.1]⟩
    have r1 := fun {nl : Option Bool} => rows9_ok (nl := nl) (n := t.length) (d := D) (l := x) (by omega)
    have r2 := fun {nl : Option Bool} => rows9_ok (nl := nl) (n := t.length) (d := D) (l := y) (by omega)
    rw [decide_eq_true ex] at r1
    rw [decide_eq_true ey] at r2
    repeat' first
      | apply WP.seq
      | (apply WP.region (E := eFits9) mixed tbl_ok; conv => whnf)
      | (apply WP.cond; conv => whnf)
      | (apply WP.skip; conv => whnf)
      | apply WP.block
      | (apply ex_at (ha (by omega)); conv => whnf)
      | (apply ex_at (hb (by omega)); conv => whnf)
      | (apply reg_and; (· kernel_rfl); conv => whnf)
      | (apply ex_and; (· with_reducible exact r1); conv => whnf)
      | (apply ex_and; (· with_reducible exact r2); conv => whnf)
      | (apply ex_i64; (· omega); conv => whnf)
      | (apply ex_eq; conv => whnf)
      | ((with_reducible apply gd_nt); conv => whnf)
      | (apply nd_gl; (· omega); conv => whnf)
      | (apply And.intro; (· first | with_reducible rfl | exact trivial | exact Or.inl ⟨rfl, rfl⟩ | exact Or.inr rfl | decide | omega | (apply Nat.le_of_ble_eq_true; rfl) | (dsimp only; omega) | (simp only [ints_len, gl_len, mp_len, List.length_cons, List.length_nil, List.length_drop, List.length_take]; omega)); conv => whnf)
      | apply br_not
      | (apply br_t; conv => whnf)
      | (apply br_yes; (· omega); conv => whnf)
      | (rw [fz_rows]; conv => whnf)
      | fail
    refine Exists.intro (j + 1) (And.intro (And.intro (by omega) (by omega)) ?_)
    conv => whnf
    repeat' first
      | apply True.intro
      | (apply ptr_and; (· kernel_rfl); conv => whnf)
      | omega
      | (apply Or.inr; rfl)
      | (apply or_row; (· rfl); (· rfl); rfl)
      | (apply And.intro <;> conv => whnf)
      | fail
  repeat' first
    | apply WP.seq
    | (apply WP.region (E := eFits9) mixed tbl_ok; conv => whnf)
    | (apply WP.cond; conv => whnf)
    | (apply WP.ret; conv => whnf)
    | (apply WP.exit; conv => whnf)
    | (apply reg_and; (· kernel_rfl); conv => whnf)
    | (apply ex_eq; conv => whnf)
    | (apply And.intro; (· first | with_reducible rfl | exact trivial | exact Or.inl ⟨rfl, rfl⟩ | exact Or.inr rfl | decide | omega | (apply Nat.le_of_ble_eq_true; rfl) | (dsimp only; omega) | (simp only [ints_len, gl_len, mp_len, List.length_cons, List.length_nil, List.length_drop, List.length_take]; omega)); conv => whnf)
    | (apply br_no; (· omega); conv => whnf)
    | fail
end Go.Proofs.Ytjihjjbieeofdaa.T
namespace Go.Proofs.Ytjihjjbieeofdaa.T
set_option linter.unusedSimpArgs false
set_option linter.unusedVariables false
open Go
set_option linter.unusedVariables false
set_option maxHeartbeats 8000000
set_option maxRecDepth 100000
end Go.Proofs.Ytjihjjbieeofdaa.T
namespace Go.Proofs.Ytjihjjbieeofdaa.T
set_option linter.unusedSimpArgs false
set_option linter.unusedVariables false
open Go
set_option linter.unusedVariables false
set_option maxHeartbeats 8000000
set_option maxRecDepth 100000
end Go.Proofs.Ytjihjjbieeofdaa.T
namespace Go.Proofs.Ytjihjjbieeofdaa.T
set_option linter.unusedSimpArgs false
set_option linter.unusedVariables false
open Go
set_option linter.unusedVariables false
set_option maxHeartbeats 8000000
set_option maxRecDepth 100000
def cutR (m : Nat) (r : List (List Int)) : List (List Int) := (r.take m).map fun x => x.take 40
def cutL (K : List (List (List Int))) : List (List (List Int)) := (K.take 5).map (cutR 130)
theorem map_snoc {α β : Type} {g : β → AV} {f : α → β} {l : List α} {i : Nat} (d : α) (h : i < l.length) : gl g ((l.take i).map f) ++ [g (f (l.getD i d))] = gl g ((l.take (i + 1)).map f) := by
  rw [take_snoc d h, List.map_append]; unfold gl; rw [List.map_append]; rfl
def eRows5 : Env := ⟨tbl, [], [26], [], [(0, [0, 1]), (1, [0, 1, 5]), (2, [0, 1, 5, 6]), (3, [0, 1, 5, 6, 16]), (4, [0, 1, 5, 6]), (5, [0, 1, 5, 6]), (6, [4])]⟩
theorem rows5_ok {nl : Option Bool} {l : List (List Int)} (m : Nat) (hl : l.length ≤ 140737488351232) (hr : ∀ r ∈ l, r.length ≤ 140737488351232) (hm : m ≤ 1000000) : Impl Try.prog 75 [.sl none nl 1 true (gl (rowA none) l), .i .i64 m] (.sl (some 0) none 1 true (gl (rowA none) (cutR m l))) := by
  refine impl_of (fn := Try.f75) tbl_ok (by kernel_rfl) (by kernel_rfl) rfl ⟨by simp [Try.f75], by decide⟩ rfl fun W0 => ?_
  repeat' first
    | apply WP.seq
    | (apply WP.region (E := eRows5) mixed tbl_ok; conv => whnf)
    | apply WP.block
    | (apply reg_and; (· kernel_rfl); conv => whnf)
    | fail
  refine WP.loopM [5, 6, 16] (fun i : Nat => [(5, .sl (some 0) none 1 true (gl (rowA none) (cutR i l))), (6, .i .i64 i)]) (fun i => i ≤ l.length ∧ i ≤ m) (fun i => m - i) 0 ?_
  conv => whnf
  refine And.intro (And.intro ?_ ?_) (fun i hi => ?_)
  · first | omega | trivial | skip
  · conv => whnf
    repeat' first
      | apply True.intro
      | (apply ptr_and; (· kernel_rfl); conv => whnf)
      | omega
      | (apply Or.inr; rfl)
      | (apply Or.inl; rfl)
      | (apply or_row; (· rfl); (· rfl); rfl)
      | (apply And.intro <;> conv => whnf)
      | fail
  conv => whnf
  obtain ⟨hi1, hi2⟩ := hi
  have ha := fun h => gl_at (f := rowA none) (l := l) (i := i) [] h
  have hf : i < l.length → ∀ {no : Option Bool}, Impl Try.prog 21 [.sl none no 1 false (ints .i32 (l.getD i [])), .i .i64 40] (rowA (some 0) ((l.getD i []).take 40)) := fun h {no} => few3_ok 40 (hr _ (getD_in [] h)) (by omega)
  have hsn := fun h => map_snoc (g := rowA none) (f := fun x : List Int => x.take 40) (l := l) (i := i) [] h
  have hml : (cutR i l).length = i := by unfold cutR; rw [List.length_map, List.length_take]; omega
  repeat' first
    | apply WP.seq
    | (apply WP.region (E := eRows5) mixed tbl_ok; conv => whnf)
    | (apply WP.cond; conv => whnf)
    | (apply WP.skip; conv => whnf)
    | (apply WP.ret; conv => whnf)
    | (apply WP.exit; conv => whnf)
    | apply WP.block
    | (apply ex_at (ha (by omega)); conv => whnf)
    | (apply reg_and; (· kernel_rfl); conv => whnf)
    | (apply ex_and; (· with_reducible exact hf (by omega)); conv => whnf)
    | (apply ex_glen; conv => whnf)
    | (apply ex_i64; (· omega); conv => whnf)
    | (apply ex_eq; conv => whnf)
    | ((with_reducible apply gd_t); conv => whnf)
    | ((with_reducible apply gd_f); conv => whnf)
    | (apply gd_br)
    | (apply nd_gl; (· omega); conv => whnf)
    | (apply And.intro; (· first | with_reducible rfl | exact trivial | exact Or.inl ⟨rfl, rfl⟩ | exact Or.inr rfl | decide | omega | (apply Nat.le_of_ble_eq_true; rfl) | (dsimp only; omega) | (simp only [ints_len, gl_len, mp_len, List.length_cons, List.length_nil, List.length_drop, List.length_take]; omega)); conv => whnf)
    | (apply br_f; conv => whnf)
    | (apply br_dec <;> intro hbr <;> (first | rw [decide_eq_true hbr] | rw [decide_eq_false hbr] | skip) <;> conv => whnf)
    | fail
  · refine Exists.intro (i + 1) (And.intro (And.intro ⟨by omega, by omega⟩ (by omega)) ?_)
    conv => whnf
    repeat' first
      | apply True.intro
      | (apply ptr_and; (· kernel_rfl); conv => whnf)
      | omega
      | (apply Or.inr; rfl)
      | (apply Or.inl; rfl)
      | (apply or_row; (· rfl); (· rfl); rfl)
      | (apply And.intro <;> conv => whnf)
      | (apply or_row; (· rfl); (· rfl); exact hsn (by omega))
      | fail
  all_goals have e : cutR i l = cutR m l := by unfold cutR; rw [take_cap (i := i) (n := m) (by omega)]
  all_goals rw [e]
  · repeat' first
      | (apply or_row; (· rfl); (· rfl); rfl)
      | fail
  · repeat' first
      | (apply or_row; (· rfl); (· rfl); rfl)
      | fail
def eLists : Env := ⟨tbl, [], [23], [], [(0, [0]), (1, [0, 3]), (2, [0, 3, 4]), (3, [0, 3, 4, 13]), (4, [0, 3, 4]), (5, [0, 3, 4]), (6, [2])]⟩
/-- Sizes of a view's rows, as memory bounds them. -/
def SizM (K : List (List (List Int))) : Prop := K.length ≤ 140737488351232 ∧ ∀ r ∈ K, r.length ≤ 140737488351232 ∧ ∀ x ∈ r, x.length ≤ 140737488351232
theorem lists_ok {nl : Option Bool} {l : List (List (List Int))} (hl : SizM l) : Impl Try.prog 52 [.sl none nl 1 true (gl (rowsA none) l)] (rows3 (some 0) (cutL l)) := by
  obtain ⟨hl1, hl2⟩ := hl
  refine impl_of (fn := Try.f52) tbl_ok (by kernel_rfl) (by kernel_rfl) rfl ⟨by simp [Try.f52], by decide⟩ rfl fun W0 => ?_
  repeat' first
    | apply WP.seq
    | (apply WP.region (E := eLists) mixed tbl_ok; conv => whnf)
    | apply WP.block
    | (apply reg_and; (· kernel_rfl); conv => whnf)
    | fail
  refine WP.loopM [3, 4, 13] (fun i : Nat => [(3, rows3 (some 0) ((l.take i).map (cutR 130))), (4, .i .i64 i)]) (fun i => i ≤ l.length ∧ i ≤ 5) (fun i => 5 - i) 0 ?_
  conv => whnf
  refine And.intro (And.intro ?_ ?_) (fun i hi => ?_)
  · first | omega | trivial | skip
  · conv => whnf
    repeat' first
      | apply True.intro
      | (apply ptr_and; (· kernel_rfl); conv => whnf)
      | omega
      | (apply Or.inr; rfl)
      | (apply Or.inl; rfl)
      | (apply or_row; (· rfl); (· rfl); rfl)
      | (apply And.intro <;> conv => whnf)
      | fail
  conv => whnf
  obtain ⟨hi1, hi2⟩ := hi
  have ha := fun h => gl_at (f := rowsA none) (l := l) (i := i) [] h
  have hf : i < l.length → ∀ {no : Option Bool}, Impl Try.prog 75 [.sl none no 1 true (gl (rowA none) (l.getD i [])), .i .i64 130] (.sl (some 0) none 1 true (gl (rowA none) (cutR 130 (l.getD i [])))) := fun h {no} => rows5_ok 130 (hl2 _ (getD_in [] h)).1 (hl2 _ (getD_in [] h)).2 (by omega)
  have hsn := fun h => map_snoc (g := rowsA none) (f := cutR 130) (l := l) (i := i) [] h
  have hml : ((l.take i).map (cutR 130)).length = i := by rw [List.length_map, List.length_take]; omega
  repeat' first
    | (rw [fz_rows]; conv => whnf)
    | apply WP.seq
    | (apply WP.region (E := eLists) mixed tbl_ok; conv => whnf)
    | (apply WP.cond; conv => whnf)
    | (apply WP.skip; conv => whnf)
    | (apply WP.ret; conv => whnf)
    | (apply WP.exit; conv => whnf)
    | apply WP.block
    | (apply ex_at (ha (by omega)); conv => whnf)
    | (apply reg_and; (· kernel_rfl); conv => whnf)
    | (apply ex_and; (· with_reducible exact hf (by omega)); conv => whnf)
    | (apply ex_glen; conv => whnf)
    | (apply ex_i64; (· omega); conv => whnf)
    | (apply ex_eq; conv => whnf)
    | ((with_reducible apply gd_t); conv => whnf)
    | ((with_reducible apply gd_f); conv => whnf)
    | (apply gd_br)
    | (apply nd_gl; (· omega); conv => whnf)
    | (apply And.intro; (· first | with_reducible rfl | exact trivial | exact Or.inl ⟨rfl, rfl⟩ | exact Or.inr rfl | decide | omega | (apply Nat.le_of_ble_eq_true; rfl) | (dsimp only; omega) | (simp only [ints_len, gl_len, mp_len, List.length_cons, List.length_nil, List.length_drop, List.length_take]; omega)); conv => whnf)
    | (apply br_f; conv => whnf)
    | (apply br_dec <;> intro hbr <;> (first | rw [decide_eq_true hbr] | rw [decide_eq_false hbr] | skip) <;> conv => whnf)
    | fail
  · refine Exists.intro (i + 1) (And.intro (And.intro ⟨by omega, by omega⟩ (by omega)) ?_)
    conv => whnf
    repeat' first
      | apply True.intro
      | (apply ptr_and; (· kernel_rfl); conv => whnf)
      | omega
      | (apply Or.inr; rfl)
      | (apply Or.inl; rfl)
      | (apply or_row; (· rfl); (· rfl); rfl)
      | (apply And.intro <;> conv => whnf)
      | (apply or_row; (· rfl); (· rfl); exact hsn (by omega))
      | fail
  all_goals have e : (l.take i).map (cutR 130) = cutL l := by unfold cutL; rw [take_cap (i := i) (n := 5) (by omega)]
  all_goals rw [e]
  · repeat' first
      | (apply or_row; (· rfl); (· rfl); rfl)
      | fail
  · repeat' first
      | (apply or_row; (· rfl); (· rfl); rfl)
      | fail
abbrev viewA (o : Option Nat) (t : List Int) (K W : List (List (List Int))) : AV := .agg [.sl o none 1 false (ints .i64 t), rows3 o K, rows3 o W]
def eTold9 : Env := ⟨tbl, [], [], [], [(0, [1, 2, 2999, 2000, 2001, 2002, 3999, 3000, 3001, 3002]), (1, [2, 3999, 3000, 3001, 3002])]⟩
theorem told9_ok {n1 n2 n3 : Option Bool} {t : List Int} {K W : List (List (List Int))} (ht : t.length ≤ 140737488351232) (hK : SizM K) (hW : SizM W) : Impl Try.prog 19 [.agg [.sl none n1 1 false (ints .i64 t), .sl none n2 1 true (gl (rowsA none) K), .sl none n3 1 true (gl (rowsA none) W)]] (viewA (some 0) (t.take 130) (cutL K) (cutL W)) := by
  have hf : ∀ {no : Option Bool}, Impl Try.prog 20 [.sl none no 1 false (ints .i64 t), .i .i64 130] (.sl (some 0) none 1 false (ints .i64 (t.take 130))) := fun {no} => few8_ok 130 ht (by omega)
  generalize t.take 130 = t1 at *
  have h1 := fun {nl : Option Bool} => lists_ok (nl := nl) hK
  have h2 := fun {nl : Option Bool} => lists_ok (nl := nl) hW
  generalize cutL K = K1 at *
  generalize cutL W = W1 at *
  refine impl_of (fn := Try.f19) tbl_ok (by kernel_rfl) (by kernel_rfl) rfl ⟨by simp [Try.f19], by decide⟩ rfl fun W0 => ?_
  repeat' first
    | (rw [fz_rows3]; conv => whnf)
    | apply WP.seq
    | (apply WP.region (E := eTold9) mixed tbl_ok; conv => whnf)
    | (apply WP.ret; conv => whnf)
    | (apply reg_and; (· kernel_rfl); conv => whnf)
    | (apply ex_and; (· with_reducible exact hf); conv => whnf)
    | (apply ex_and; (· with_reducible exact h1); conv => whnf)
    | (apply ex_and; (· with_reducible exact h2); conv => whnf)
    | (apply And.intro; (· first | with_reducible rfl | exact trivial | exact Or.inl ⟨rfl, rfl⟩ | exact Or.inr rfl | decide | omega | (apply Nat.le_of_ble_eq_true; rfl) | (dsimp only; omega) | (simp only [ints_len, gl_len, mp_len, List.length_cons, List.length_nil, List.length_drop, List.length_take]; omega)); conv => whnf)
    | fail
  repeat' first
    | apply True.intro
    | (apply Or.inr; rfl)
    | (apply or_row; (· rfl); (· rfl); rfl)
    | (apply And.intro <;> conv => whnf)
    | fail
end Go.Proofs.Ytjihjjbieeofdaa.T
namespace Go.Proofs.Ytjihjjbieeofdaa.T
set_option linter.unusedSimpArgs false
set_option linter.unusedVariables false
open Go
set_option linter.unusedVariables false
set_option maxHeartbeats 8000000
set_option maxRecDepth 100000
/-- A page. -/
structure Bk where
  t : List Int
  f : Int
  k : List (List (List Int))
  v : List (List (List Int))
/-- So many lists of n rows of so many numbers? -/
def shB (n d : Int) (K : List (List (List Int))) : Prop := ∀ r ∈ K, (r.length : Int) = n ∧ ∀ x ∈ r, (x.length : Int) = d
instance (n d : Int) (K : List (List (List Int))) : Decidable (shB n d K) := by unfold shB; infer_instance
/-- The form of a page. -/
def frm (c : Cfg) (t : List Int) (f : Int) (k v : List (List (List Int))) : Prop := 0 ≤ f ∧ f < t.length ∧ (t.length : Int) - f ≤ 16 ∧ t.length ≤ 128 ∧ (k.length : Int) = c.layers ∧ (v.length : Int) = c.layers
instance (c : Cfg) (t : List Int) (f : Int) (k v : List (List (List Int))) : Decidable (frm c t f k v) := by unfold frm; infer_instance
def toks (vocab : Int) (t : List Int) : Prop := ∀ x ∈ t, 0 ≤ x ∧ x < vocab
instance (v : Int) (t : List Int) : Decidable (toks v t) := by unfold toks; infer_instance
def chkB (c : Cfg) (t : List Int) (f : Int) (k v : List (List (List Int))) : Int := if frm c t f k v then (if toks c.vocab t then (if shB (t.length - f) c.dim k ∧ shB (t.length - f) c.dim v then 0 else 4) else 7) else 4
abbrev bkA (t : List Int) (f : Int) (k v : List (List (List Int))) (n1 n2 n3 : Option Bool) : AV := .agg [.sl none n1 1 false (ints .i64 t), .i .i64 f, .sl none n2 1 true (gl (rowsA none) k), .sl none n3 1 true (gl (rowsA none) v)]
theorem toks_get {v : Int} {t : List Int} {i : Nat} (h : toks v t) (hi : i < t.length) : 0 ≤ t.getD ((i : Nat) : Int).toNat 0 ∧ t.getD ((i : Nat) : Int).toNat 0 < v := by rw [Int.toNat_natCast]; exact h _ (getD_in 0 hi)
theorem toks_of {v : Int} {t : List Int} (h : ∀ i, i < t.length → 0 ≤ t.getD i 0 ∧ t.getD i 0 < v) : toks v t := fun x hx => by
  obtain ⟨j, hj⟩ := List.mem_iff_getElem?.1 hx
  have := h j (lt_of_get hj)
  rwa [List.getD_eq_getElem?_getD, hj] at this
theorem shB_bad {n d : Int} {K : List (List (List Int))} {l : Nat} (hl : l < K.length) (h : ¬ ((K.getD l []).length : Int) = n) : ¬ shB n d K := fun e => h (e _ (getD_in [] hl)).1
theorem shB_bad2 {n d : Int} {K : List (List (List Int))} {l j : Nat} (hl : l < K.length) (hj : j < (K.getD l []).length) (h : ¬ (((K.getD l []).getD j []).length : Int) = d) : ¬ shB n d K := fun e => h ((e _ (getD_in [] hl)).2 _ (getD_in [] hj))
theorem shB_of {n d : Int} {K : List (List (List Int))} (h : ∀ l, l < K.length → ((K.getD l []).length : Int) = n ∧ ∀ j, j < (K.getD l []).length → (((K.getD l []).getD j []).length : Int) = d) : shB n d K := fun r hr => by
  obtain ⟨l, hl⟩ := List.mem_iff_getElem?.1 hr
  have := h l (lt_of_get hl)
  rw [List.getD_eq_getElem?_getD, hl] at this
  refine ⟨this.1, fun x hx => ?_⟩
  obtain ⟨j, hj⟩ := List.mem_iff_getElem?.1 hx
  have h2 := this.2 j (lt_of_get hj)
  change ((r.getD j []).length : Int) = d at h2
  rwa [List.getD_eq_getElem?_getD, hj] at h2
def eShaped : Env := ⟨tbl, [], [], [], [(0, [0, 1, 2]), (1, [0, 1, 2, 7]), (2, [1, 2, 7, 12, 13, 14]), (3, [1, 2, 7, 12, 13, 14, 15]), (4, [1, 2, 7, 9, 12, 13, 14]), (5, [1, 2, 7, 9, 12, 13, 14]), (6, [1, 2, 7, 12, 13, 14, 25, 26, 27]), (7, [1, 2, 7, 12, 13, 14, 25, 26, 27, 28]), (8, [1, 2, 7, 11, 12, 13, 14, 25, 26, 27]), (9, [1, 2, 7, 12, 13, 14, 25, 26, 27]), (10, [1, 2, 7, 12, 13, 14, 25, 26, 27]), (11, [1, 2, 7, 12, 13, 14]), (12, [6])]⟩
abbrev NB : Type := Nat × Bool
theorem shB_snoc {n d : Int} {l : List (List (List Int))} {x : List (List Int)} : shB n d (l ++ [x]) ↔ shB n d l ∧ (x.length : Int) = n ∧ ∀ y ∈ x, (y.length : Int) = d := by
  refine ⟨fun h => ⟨fun r hr => h r (List.mem_append_left _ hr), h x (List.mem_append_right _ (List.mem_singleton.2 rfl))⟩, fun h r hr => ?_⟩
  rcases List.mem_append.1 hr with hr | hr
  · exact h.1 r hr
  · have := List.mem_singleton.1 hr; subst this; exact h.2
theorem all_snoc {d : Int} {l : List (List Int)} {x : List Int} : (∀ y ∈ l ++ [x], (y.length : Int) = d) ↔ (∀ y ∈ l, (y.length : Int) = d) ∧ (x.length : Int) = d := by
  refine ⟨fun h => ⟨fun r hr => h r (List.mem_append_left _ hr), h x (List.mem_append_right _ (List.mem_singleton.2 rfl))⟩, fun h r hr => ?_⟩
  rcases List.mem_append.1 hr with hr | hr
  · exact h.1 r hr
  · have := List.mem_singleton.1 hr; subst this; exact h.2
theorem and_beq {g : Bool} {a b : Int} : (g && (a == b)) = true ↔ g = true ∧ a = b := by rw [Bool.and_eq_true]; exact and_congr_right fun _ => beq_iff_eq
theorem shaped_ok {nl : Option Bool} {n d : Int} {K : List (List (List Int))} (hl : Siz3 K) : Impl Try.prog 45 [.sl none nl 1 true (gl (rowsA none) K), .i .i64 n, .i .i64 d] (.b (decide (shB n d K))) := by
  obtain ⟨hl1, hl2⟩ := hl
  refine impl_of (fn := Try.f45) tbl_ok (by kernel_rfl) (by kernel_rfl) rfl ⟨by simp [Try.f45], by decide⟩ rfl fun W0 => ?_
  repeat' first
    | apply WP.seq
    | (apply WP.region (E := eShaped) mixed tbl_ok; conv => whnf)
    | apply WP.block
    | (apply reg_and; (· kernel_rfl); conv => whnf)
    | (apply ex_glen; conv => whnf)
    | fail
  refine WP.loopM [7, 9, 11, 14, 15, 25, 26, 27, 28] (fun x : NB => [(7, .b x.2), (14, .i .i64 x.1)]) (fun x => x.1 ≤ K.length ∧ (x.2 = true ↔ shB n d (K.take x.1))) (fun x => K.length - x.1) (0, true) ?_
  conv => whnf
  refine And.intro (And.intro ?_ ?_) (fun x hx => ?_)
  · exact ⟨Nat.zero_le _, ⟨fun _ r hr => (by cases hr), fun _ => rfl⟩⟩
  · conv => whnf
    repeat' first
      | apply True.intro
      | (apply ptr_and; (· kernel_rfl); conv => whnf)
      | omega
      | (apply Or.inr; rfl)
      | (apply or_row; (· rfl); (· rfl); rfl)
      | (apply And.intro <;> conv => whnf)
      | fail
  conv => whnf
  obtain ⟨i, g⟩ := x
  obtain ⟨hi, hg⟩ := hx
  dsimp only at hi hg ⊢
  by_cases hi2 : i < K.length
  · have ha := gl_at (f := rowsA none) (l := K) (i := i) [] hi2
    have hz := hl2 _ (getD_in (l := K) (i := i) [] hi2)
    have hts := take_snoc (l := K) (i := i) [] hi2
    obtain ⟨x, hx⟩ : ∃ x, x = K.getD i [] := ⟨_, rfl⟩
    rw [← hx] at ha hz hts
    obtain ⟨hz1, hz2⟩ := hz
    obtain ⟨g1, hg1⟩ : ∃ g1 : Bool, g1 = (g && ((x.length : Int) == n)) := ⟨_, rfl⟩
    have hst : g1 = true ↔ (shB n d (K.take i) ∧ (x.length : Int) = n) ∧ ∀ y ∈ x.take 0, (y.length : Int) = d := by
      rw [hg1, and_beq, hg]; exact ⟨fun h => ⟨h, fun y hy => by cases hy⟩, fun h => h.1⟩
    clear hg
    cases g
    all_goals
      repeat' first
        | (rw [fz_rows]; conv => whnf)
        | apply WP.seq
        | (apply WP.region (E := eShaped) mixed tbl_ok; conv => whnf)
        | (apply WP.cond; conv => whnf)
        | (apply WP.skip; conv => whnf)
        | apply WP.block
        | (apply ex_at ha; conv => whnf)
        | (apply reg_and; (· kernel_rfl); conv => whnf)
        | (apply ex_glen; conv => whnf)
        | (apply ex_eq; conv => whnf)
        | ((with_reducible apply gd_t); conv => whnf)
        | ((with_reducible apply gd_f); conv => whnf)
        | (apply nd_gl; (· omega); conv => whnf)
        | (apply And.intro; (· first | with_reducible rfl | exact trivial | exact Or.inl ⟨rfl, rfl⟩ | exact Or.inr rfl | decide | omega | (apply Nat.le_of_ble_eq_true; rfl) | (dsimp only; omega) | (simp only [ints_len, gl_len, mp_len, List.length_cons, List.length_nil, List.length_drop, List.length_take]; omega)); conv => whnf)
        | (apply br_yes; (· omega); conv => whnf)
        | fail
      refine WP.loopM [7, 11, 27, 28] (fun y : NB => [(7, .b y.2), (27, .i .i64 y.1)]) (fun y => y.1 ≤ x.length ∧ (y.2 = true ↔ (shB n d (K.take i) ∧ (x.length : Int) = n) ∧ ∀ z ∈ x.take y.1, (z.length : Int) = d)) (fun y => x.length - y.1) (0, g1) ?_
      conv => whnf
      refine And.intro (And.intro ?_ ?_) (fun y hy => ?_)
      · exact ⟨Nat.zero_le _, hst⟩
      · conv => whnf
        repeat' first
          | apply True.intro
          | (apply ptr_and; (· kernel_rfl); conv => whnf)
          | omega
          | (apply Or.inr; rfl)
          | (apply or_row; (· rfl); (· rfl); rfl)
          | (apply And.intro <;> conv => whnf)
          | (subst_vars; rfl)
          | fail
      conv => whnf
      obtain ⟨j, g2⟩ := y
      obtain ⟨hj, hg2⟩ := hy
      dsimp only at hj hg2 ⊢
      by_cases hj2 : j < x.length
      · have hb := gl_at (f := rowA none) (l := x) (i := j) [] hj2
        have hy2 := hz2 _ (getD_in (l := x) (i := j) [] hj2)
        have hts2 := take_snoc (l := x) (i := j) [] hj2
        obtain ⟨y, hy⟩ : ∃ y, y = x.getD j [] := ⟨_, rfl⟩
        rw [← hy] at hb hy2 hts2
        obtain ⟨g3, hg3⟩ : ∃ g3 : Bool, g3 = (g2 && ((y.length : Int) == d)) := ⟨_, rfl⟩
        have hst2 : g3 = true ↔ (shB n d (K.take i) ∧ (x.length : Int) = n) ∧ ∀ z ∈ x.take (j + 1), (z.length : Int) = d := by
          rw [hg3, and_beq, hg2, hts2, all_snoc, and_assoc]
        clear hg2
        cases g2
        · repeat' first
            | apply WP.seq
            | (apply WP.region (E := eShaped) mixed tbl_ok; conv => whnf)
            | (apply WP.cond; conv => whnf)
            | (apply WP.skip; conv => whnf)
            | apply WP.block
            | (apply ex_at hb; conv => whnf)
            | (apply reg_and; (· kernel_rfl); conv => whnf)
            | (apply ex_i64; (· omega); conv => whnf)
            | (apply ex_eq; conv => whnf)
            | ((with_reducible apply gd_f); conv => whnf)
            | (apply nd_gl; (· omega); conv => whnf)
            | (apply And.intro; (· first | with_reducible rfl | exact trivial | exact Or.inl ⟨rfl, rfl⟩ | exact Or.inr rfl | decide | omega | (apply Nat.le_of_ble_eq_true; rfl) | (dsimp only; omega) | (simp only [ints_len, gl_len, mp_len, List.length_cons, List.length_nil, List.length_drop, List.length_take]; omega)); conv => whnf)
            | (apply br_yes; (· omega); conv => whnf)
            | fail
          refine Exists.intro (j + 1, g3) (And.intro (And.intro ⟨by show j + 1 ≤ x.length; omega, hst2⟩ (by show x.length - (j + 1) < x.length - j; omega)) ?_)
          conv => whnf
          repeat' first
            | apply True.intro
            | (apply ptr_and; (· kernel_rfl); conv => whnf)
            | omega
            | (apply Or.inr; rfl)
            | (apply or_row; (· rfl); (· rfl); rfl)
            | (apply And.intro <;> conv => whnf)
            | (subst_vars; rfl)
            | fail
        · repeat' first
            | apply WP.seq
            | (apply WP.region (E := eShaped) mixed tbl_ok; conv => whnf)
            | (apply WP.cond; conv => whnf)
            | (apply WP.skip; conv => whnf)
            | apply WP.block
            | (apply ex_at hb; conv => whnf)
            | (apply reg_and; (· kernel_rfl); conv => whnf)
            | (apply ex_ilen; conv => whnf)
            | (apply ex_i64; (· omega); conv => whnf)
            | (apply ex_eq; conv => whnf)
            | ((with_reducible apply gd_t); conv => whnf)
            | (apply nd_gl; (· omega); conv => whnf)
            | (apply And.intro; (· first | with_reducible rfl | exact trivial | exact Or.inl ⟨rfl, rfl⟩ | exact Or.inr rfl | decide | omega | (apply Nat.le_of_ble_eq_true; rfl) | (dsimp only; omega) | (simp only [ints_len, gl_len, mp_len, List.length_cons, List.length_nil, List.length_drop, List.length_take]; omega)); conv => whnf)
            | (apply br_yes; (· omega); conv => whnf)
            | fail
          refine Exists.intro (j + 1, g3) (And.intro (And.intro ⟨by show j + 1 ≤ x.length; omega, hst2⟩ (by show x.length - (j + 1) < x.length - j; omega)) ?_)
          conv => whnf
          repeat' first
            | apply True.intro
            | (apply ptr_and; (· kernel_rfl); conv => whnf)
            | omega
            | (apply Or.inr; rfl)
            | (apply or_row; (· rfl); (· rfl); rfl)
            | (apply And.intro <;> conv => whnf)
            | (subst_vars; rfl)
            | fail
      · have e : j = x.length := by omega
        subst e
        have hend : g2 = true ↔ shB n d (K.take (i + 1)) := by
          rw [hg2, hts, shB_snoc, List.take_length, and_assoc]
        repeat' first
          | apply WP.seq
          | (apply WP.region (E := eShaped) mixed tbl_ok; conv => whnf)
          | (apply WP.cond; conv => whnf)
          | (apply WP.exit; conv => whnf)
          | (apply reg_and; (· kernel_rfl); conv => whnf)
          | (apply ex_i64; (· omega); conv => whnf)
          | (apply ex_eq; conv => whnf)
          | (apply And.intro; (· first | with_reducible rfl | exact trivial | exact Or.inl ⟨rfl, rfl⟩ | exact Or.inr rfl | decide | omega | (apply Nat.le_of_ble_eq_true; rfl) | (dsimp only; omega) | (simp only [ints_len, gl_len, mp_len, List.length_cons, List.length_nil, List.length_drop, List.length_take]; omega)); conv => whnf)
          | (apply br_no; (· omega); conv => whnf)
          | fail
        refine Exists.intro (i + 1, g2) (And.intro (And.intro ⟨by show i + 1 ≤ K.length; omega, hend⟩ (by show K.length - (i + 1) < K.length - i; omega)) ?_)
        conv => whnf
        repeat' first
          | apply True.intro
          | (apply ptr_and; (· kernel_rfl); conv => whnf)
          | omega
          | (apply Or.inr; rfl)
          | (apply or_row; (· rfl); (· rfl); rfl)
          | (apply And.intro <;> conv => whnf)
          | fail
  · have e : i = K.length := by omega
    subst e
    rw [List.take_length] at hg
    have hge : g = decide (shB n d K) := by
      by_cases h : shB n d K
      · rw [decide_eq_true h]; exact hg.2 h
      · rw [decide_eq_false h]; exact Bool.eq_false_iff.2 fun e => h (hg.1 e)
    repeat' first
      | apply WP.seq
      | (apply WP.region (E := eShaped) mixed tbl_ok; conv => whnf)
      | (apply WP.cond; conv => whnf)
      | (apply WP.ret; conv => whnf)
      | (apply WP.exit; conv => whnf)
      | (apply reg_and; (· kernel_rfl); conv => whnf)
      | (apply ex_eq; conv => whnf)
      | (apply And.intro; (· first | with_reducible rfl | exact trivial | exact Or.inl ⟨rfl, rfl⟩ | exact Or.inr rfl | decide | omega | (apply Nat.le_of_ble_eq_true; rfl) | (dsimp only; omega) | (simp only [ints_len, gl_len, mp_len, List.length_cons, List.length_nil, List.length_drop, List.length_take]; omega)); conv => whnf)
      | (apply br_no; (· omega); conv => whnf)
      | omega
      | fail
def eBCheck : Env := ⟨tbl, [], [], [], [(0, [2, 3, 3999, 3000, 3001, 3002, 3003, 3004, 4999, 4000, 4001, 4002, 4003]), (1, [2, 3, 5, 3999, 3000, 3001, 3002, 3003, 3004, 4999, 4000, 4001, 4002, 4003]), (2, [2, 3, 5, 54, 3999, 3000, 3001, 3002, 3003, 3004, 4999, 4000, 4001, 4002, 4003]), (3, [4]), (4, [2, 3, 5, 56, 57, 58, 3999, 3000, 3001, 3002, 3003, 3004, 4999, 4000, 4001, 4002, 4003]), (5, [2, 3, 5, 56, 57, 58, 59, 3999, 3000, 3001, 3002, 3003, 3004, 4999, 4000, 4001, 4002, 4003]), (6, [2, 3, 5, 7, 56, 57, 58, 3999, 3000, 3001, 3002, 3003, 3004, 4999, 4000, 4001, 4002, 4003]), (7, [2, 3, 5, 56, 57, 58, 69, 3999, 3000, 3001, 3002, 3003, 3004, 4999, 4000, 4001, 4002, 4003]), (8, [4]), (9, [2, 3, 5, 56, 57, 58, 3999, 3000, 3001, 3002, 3003, 3004, 4999, 4000, 4001, 4002, 4003]), (10, [2, 5, 77, 78, 79, 3999, 3000, 3001, 3002, 3003, 3004]), (11, [2, 5, 77, 78, 79, 80, 3999, 3000, 3001, 3002, 3003, 3004]), (12, [2, 5, 9, 77, 78, 79, 3999, 3000, 3001, 3002, 3003, 3004]), (13, [2, 5, 77, 78, 79, 83, 84, 85, 3999, 3000, 3001, 3002, 3003, 3004]), (14, [2, 5, 77, 78, 79, 83, 84, 85, 86, 3999, 3000, 3001, 3002, 3003, 3004]), (15, [2, 5, 11, 77, 78, 79, 83, 84, 85, 3999, 3000, 3001, 3002, 3003, 3004]), (16, [2, 5, 11, 77, 78, 79, 83, 84, 85, 92, 3999, 3000, 3001, 3002, 3003, 3004]), (17, [4]), (18, [2, 5, 77, 78, 79, 83, 84, 85, 93, 94, 95, 3999, 3000, 3001, 3002, 3003, 3004]), (19, [2, 5, 77, 78, 79, 83, 84, 85, 93, 94, 95, 96, 3999, 3000, 3001, 3002, 3003, 3004]), (20, [2, 5, 13, 77, 78, 79, 83, 84, 85, 93, 94, 95, 3999, 3000, 3001, 3002, 3003, 3004]), (21, [2, 5, 77, 78, 79, 83, 84, 85, 93, 94, 95, 103, 3999, 3000, 3001, 3002, 3003, 3004]), (22, [4]), (23, [2, 5, 77, 78, 79, 83, 84, 85, 93, 94, 95, 3999, 3000, 3001, 3002, 3003, 3004]), (24, [2, 5, 77, 78, 79, 83, 84, 85, 3999, 3000, 3001, 3002, 3003, 3004]), (25, [2, 5, 77, 78, 79, 3999, 3000, 3001, 3002, 3003, 3004]), (26, [4])]⟩
theorem bcheck_ok {n1 n2 n3 : Option Bool} (c : Cfg) {t : List Int} {f : Int} {k v : List (List (List Int))} (ht : t.length ≤ 1000000) (hf : IntKind.i64.min ≤ f ∧ f ≤ IntKind.i64.max) (hk : Siz3 k) (hv : Siz3 v) : Impl Try.prog 13 [cfgA c, bkA t f k v n1 n2 n3] (.i .i64 (chkB c t f k v)) := by
  have hk1 := hk.1
  have hv1 := hv.1
  have hf2 : -9223372036854775808 ≤ f ∧ f ≤ 9223372036854775807 := hf
  unfold chkB
  by_cases hfr : frm c t f k v
  · rw [if_pos hfr]
    obtain ⟨h1, h2, h3, h4, h5, h6⟩ := hfr
    refine impl_of (fn := Try.f13) tbl_ok (by kernel_rfl) (by kernel_rfl) rfl ⟨by simp [Try.f13], by decide⟩ rfl fun W0 => ?_
    repeat' first
      | apply WP.seq
      | (apply WP.region (E := eBCheck) mixed tbl_ok; conv => whnf)
      | (apply WP.cond; conv => whnf)
      | (apply WP.skip; conv => whnf)
      | apply WP.block
      | (apply reg_and; (· kernel_rfl); conv => whnf)
      | (apply ex_ilen; conv => whnf)
      | (apply ex_glen; conv => whnf)
      | (apply ex_i64; (· omega); conv => whnf)
      | (apply ex_eq; conv => whnf)
      | (apply gd_br)
      | (apply And.intro; (· first | with_reducible rfl | exact trivial | exact Or.inl ⟨rfl, rfl⟩ | exact Or.inr rfl | decide | omega | (apply Nat.le_of_ble_eq_true; rfl) | (dsimp only; omega) | (simp only [ints_len, gl_len, mp_len, List.length_cons, List.length_nil, List.length_drop, List.length_take]; omega)); conv => whnf)
      | apply br_not
      | (apply br_yes; (· omega); conv => whnf)
      | (apply br_no; (· omega); conv => whnf)
      | fail
    refine WP.loopM [7, 58, 59, 69] (fun i : Nat => [(58, .i .i64 i)]) (fun i => i ≤ t.length ∧ ∀ j, j < i → 0 ≤ t.getD j 0 ∧ t.getD j 0 < c.vocab) (fun i => t.length - i) 0 ?_
    conv => whnf
    refine And.intro (And.intro ?_ ?_) (fun i hi => ?_)
    · exact ⟨Nat.zero_le _, fun j hj => absurd hj (by omega)⟩
    · conv => whnf
      repeat' first
        | apply True.intro
        | (apply ptr_and; (· kernel_rfl); conv => whnf)
        | omega
        | (apply Or.inr; rfl)
        | (apply or_row; (· rfl); (· rfl); rfl)
        | (apply And.intro <;> conv => whnf)
        | fail
    conv => whnf
    obtain ⟨hi1, hi2⟩ := hi
    by_cases hit : i < t.length
    · have hg : t.getD ((i : Nat) : Int).toNat 0 = t.getD i 0 := by rw [Int.toNat_natCast]
      by_cases hgd : 0 ≤ t.getD i 0 ∧ t.getD i 0 < c.vocab
      · have hx := hgd
        rw [← hg] at hx
        repeat' first
          | apply WP.seq
          | (apply WP.region (E := eBCheck) mixed tbl_ok; conv => whnf)
          | (apply WP.cond; conv => whnf)
          | (apply WP.skip; conv => whnf)
          | apply WP.block
          | (apply reg_and; (· kernel_rfl); conv => whnf)
          | (apply ex_i64; (· omega); conv => whnf)
          | (apply ex_ints; (· omega); conv => whnf)
          | (apply ex_eq; conv => whnf)
          | (apply gd_br)
          | (apply nd_ints; (· omega); conv => whnf)
          | (apply And.intro; (· first | with_reducible rfl | exact trivial | exact Or.inl ⟨rfl, rfl⟩ | exact Or.inr rfl | decide | omega | (apply Nat.le_of_ble_eq_true; rfl) | (dsimp only; omega) | (simp only [ints_len, gl_len, mp_len, List.length_cons, List.length_nil, List.length_drop, List.length_take]; omega)); conv => whnf)
          | (apply br_yes; (· omega); conv => whnf)
          | (apply br_no; (· omega); conv => whnf)
          | fail
        refine Exists.intro (i + 1) (And.intro (And.intro ⟨by omega, fun j hj => ?_⟩ (by omega)) ?_)
        · by_cases e : j = i
          · subst e; exact hgd
          · exact hi2 j (by omega)
        · conv => whnf
          repeat' first
            | apply True.intro
            | (apply ptr_and; (· kernel_rfl); conv => whnf)
            | omega
            | (apply Or.inr; rfl)
            | (apply or_row; (· rfl); (· rfl); rfl)
            | (apply And.intro <;> conv => whnf)
            | fail
      · rw [if_neg (fun e : toks c.vocab t => hgd (by have := toks_get e hit; rwa [hg] at this))]
        rw [← hg] at hgd
        repeat' first
          | apply WP.seq
          | (apply WP.region (E := eBCheck) mixed tbl_ok; conv => whnf)
          | (apply WP.cond; conv => whnf)
          | (apply WP.skip; conv => whnf)
          | (apply WP.ret; conv => whnf)
          | apply WP.block
          | (apply reg_and; (· kernel_rfl); conv => whnf)
          | (apply ex_ints; (· omega); conv => whnf)
          | (apply ex_eq; conv => whnf)
          | ((with_reducible apply gd_t); conv => whnf)
          | ((with_reducible apply gd_f); conv => whnf)
          | (apply gd_br)
          | (apply nd_ints; (· omega); conv => whnf)
          | (apply And.intro; (· first | with_reducible rfl | exact trivial | exact Or.inl ⟨rfl, rfl⟩ | exact Or.inr rfl | decide | omega | (apply Nat.le_of_ble_eq_true; rfl) | (dsimp only; omega) | (simp only [ints_len, gl_len, mp_len, List.length_cons, List.length_nil, List.length_drop, List.length_take]; omega)); conv => whnf)
          | (apply br_t; conv => whnf)
          | (apply br_yes; (· omega); conv => whnf)
          | (apply br_dec <;> intro hbr <;> (first | rw [decide_eq_true hbr] | rw [decide_eq_false hbr] | skip) <;> conv => whnf)
          | fail
        all_goals omega
    · rw [if_pos (toks_of fun j hj => hi2 j (by omega))]
      clear hi2
      repeat' first
        | (rw [fz_rows3]; conv => whnf)
        | apply WP.seq
        | (apply WP.region (E := eBCheck) mixed tbl_ok; conv => whnf)
        | (apply WP.cond; conv => whnf)
        | (apply WP.exit; conv => whnf)
        | apply WP.block
        | (apply reg_and; (· kernel_rfl); conv => whnf)
        | (apply ex_eq; conv => whnf)
        | (apply And.intro; (· first | with_reducible rfl | exact trivial | exact Or.inl ⟨rfl, rfl⟩ | exact Or.inr rfl | decide | omega | (apply Nat.le_of_ble_eq_true; rfl) | (dsimp only; omega) | (simp only [ints_len, gl_len, mp_len, List.length_cons, List.length_nil, List.length_drop, List.length_take]; omega)); conv => whnf)
        | (apply br_no; (· omega); conv => whnf)
        | fail
      obtain ⟨n, hn⟩ : ∃ n : Int, n = t.length - f := ⟨_, rfl⟩
      rw [← hn]
      have hn2 : 0 ≤ n ∧ n ≤ 16 := by omega
      refine WP.loopM [9, 11, 13, 79, 80, 83, 84, 85, 86, 92, 93, 94, 95, 96, 103] (fun i : Nat => [(79, .i .i64 i)]) (fun i => i ≤ 2 ∧ (1 ≤ i → shB n c.dim k) ∧ (2 ≤ i → shB n c.dim v)) (fun i => 2 - i) 0 ?_
      conv => whnf
      refine And.intro (And.intro ?_ ?_) (fun i hi => ?_)
      · exact ⟨by omega, fun h => absurd h (by omega), fun h => absurd h (by omega)⟩
      · conv => whnf
        repeat' first
          | apply True.intro
          | (apply ptr_and; (· kernel_rfl); conv => whnf)
          | omega
          | (apply Or.inr; rfl)
          | (apply or_row; (· rfl); (· rfl); rfl)
          | (apply And.intro <;> conv => whnf)
          | fail
      conv => whnf
      obtain ⟨hi0, hs1, hs2⟩ := hi
      have h3 : i = 0 ∨ i = 1 ∨ i = 2 := by omega
      rcases h3 with rfl | rfl | rfl
      · skip
        have hKz := hk.2
        have ha0 : ([AV.sl none n2 1 true (gl (rowsA none) k), AV.sl none n3 1 true (gl (rowsA none) v)] : List AV)[((0 : Nat) : Int).toNat]? = some (AV.sl none n2 1 true (gl (rowsA none) k)) := rfl
        repeat' first
          | apply WP.seq
          | (apply WP.region (E := eBCheck) mixed tbl_ok; conv => whnf)
          | (apply WP.cond; conv => whnf)
          | (apply WP.skip; conv => whnf)
          | apply WP.block
          | (apply ex_at ha0; conv => whnf)
          | (apply reg_and; (· kernel_rfl); conv => whnf)
          | (apply ex_glen; conv => whnf)
          | (apply ex_eq; conv => whnf)
          | (apply And.intro; (· first | with_reducible rfl | exact trivial | exact Or.inl ⟨rfl, rfl⟩ | exact Or.inr rfl | decide | omega | (apply Nat.le_of_ble_eq_true; rfl) | (dsimp only; omega) | (simp only [ints_len, gl_len, mp_len, List.length_cons, List.length_nil, List.length_drop, List.length_take]; omega)); conv => whnf)
          | (apply br_t; conv => whnf)
          | fail
        refine WP.loopM [11, 13, 85, 86, 92, 93, 94, 95, 96, 103] (fun l : Nat => [(85, .i .i64 l)]) (fun l => l ≤ k.length ∧ ∀ p, p < l → ((k.getD p []).length : Int) = n ∧ ∀ q, q < (k.getD p []).length → (((k.getD p []).getD q []).length : Int) = c.dim) (fun l => k.length - l) 0 ?_
        conv => whnf
        refine And.intro (And.intro ?_ ?_) (fun l hl => ?_)
        · exact ⟨Nat.zero_le _, fun p hp => absurd hp (by omega)⟩
        · conv => whnf
          repeat' first
            | apply True.intro
            | (apply ptr_and; (· kernel_rfl); conv => whnf)
            | omega
            | (apply Or.inr; rfl)
            | (apply or_row; (· rfl); (· rfl); rfl)
            | (apply And.intro <;> conv => whnf)
            | fail
        conv => whnf
        obtain ⟨hl1, hl2⟩ := hl
        by_cases hlk : l < k.length
        · have ha := gl_at (f := rowsA none) (l := k) (i := l) [] hlk
          have hz := hKz _ (getD_in (l := k) (i := l) [] hlk)
          by_cases hrn : ((k.getD l []).length : Int) = n
          · obtain ⟨r, hr⟩ : ∃ r, r = k.getD l [] := ⟨_, rfl⟩
            rw [← hr] at ha hz hrn
            obtain ⟨hz1, hz2⟩ := hz
            repeat' first
              | (rw [fz_rows]; conv => whnf)
              | apply WP.seq
              | (apply WP.region (E := eBCheck) mixed tbl_ok; conv => whnf)
              | (apply WP.cond; conv => whnf)
              | (apply WP.skip; conv => whnf)
              | apply WP.block
              | (apply ex_at ha; conv => whnf)
              | (apply reg_and; (· kernel_rfl); conv => whnf)
              | (apply ex_glen; conv => whnf)
              | (apply ex_eq; conv => whnf)
              | (apply nd_gl; (· omega); conv => whnf)
              | (apply And.intro; (· first | with_reducible rfl | exact trivial | exact Or.inl ⟨rfl, rfl⟩ | exact Or.inr rfl | decide | omega | (apply Nat.le_of_ble_eq_true; rfl) | (dsimp only; omega) | (simp only [ints_len, gl_len, mp_len, List.length_cons, List.length_nil, List.length_drop, List.length_take]; omega)); conv => whnf)
              | apply br_not
              | (apply br_yes; (· omega); conv => whnf)
              | fail
            refine WP.loopM [13, 95, 96, 103] (fun p : Nat => [(95, .i .i64 p)]) (fun p => p ≤ r.length ∧ ∀ q, q < p → ((r.getD q []).length : Int) = c.dim) (fun p => r.length - p) 0 ?_
            conv => whnf
            refine And.intro (And.intro ?_ ?_) (fun p hp => ?_)
            · exact ⟨Nat.zero_le _, fun q hq => absurd hq (by omega)⟩
            · conv => whnf
              repeat' first
                | apply True.intro
                | (apply ptr_and; (· kernel_rfl); conv => whnf)
                | omega
                | (apply Or.inr; rfl)
                | (apply or_row; (· rfl); (· rfl); rfl)
                | (apply And.intro <;> conv => whnf)
                | fail
            conv => whnf
            obtain ⟨hp1, hp2⟩ := hp
            by_cases hpr : p < r.length
            · have hb := gl_at (f := rowA none) (l := r) (i := p) [] hpr
              have hy2 := hz2 _ (getD_in (l := r) (i := p) [] hpr)
              by_cases hyd : ((r.getD p []).length : Int) = c.dim
              · obtain ⟨y, hy⟩ : ∃ y, y = r.getD p [] := ⟨_, rfl⟩
                rw [← hy] at hb hy2 hyd
                repeat' first
                  | apply WP.seq
                  | (apply WP.region (E := eBCheck) mixed tbl_ok; conv => whnf)
                  | (apply WP.cond; conv => whnf)
                  | (apply WP.skip; conv => whnf)
                  | apply WP.block
                  | (apply ex_at hb; conv => whnf)
                  | (apply reg_and; (· kernel_rfl); conv => whnf)
                  | (apply ex_ilen; conv => whnf)
                  | (apply ex_i64; (· omega); conv => whnf)
                  | (apply ex_eq; conv => whnf)
                  | (apply nd_gl; (· omega); conv => whnf)
                  | (apply And.intro; (· first | with_reducible rfl | exact trivial | exact Or.inl ⟨rfl, rfl⟩ | exact Or.inr rfl | decide | omega | (apply Nat.le_of_ble_eq_true; rfl) | (dsimp only; omega) | (simp only [ints_len, gl_len, mp_len, List.length_cons, List.length_nil, List.length_drop, List.length_take]; omega)); conv => whnf)
                  | apply br_not
                  | (apply br_yes; (· omega); conv => whnf)
                  | fail
                refine Exists.intro (p + 1) (And.intro (And.intro ⟨by omega, fun q hq => ?_⟩ (by omega)) ?_)
                · by_cases e : q = p
                  · subst e; rw [← hy]; exact hyd
                  · exact hp2 q (by omega)
                · conv => whnf
                  repeat' first
                    | apply True.intro
                    | (apply ptr_and; (· kernel_rfl); conv => whnf)
                    | omega
                    | (apply Or.inr; rfl)
                    | (apply or_row; (· rfl); (· rfl); rfl)
                    | (apply And.intro <;> conv => whnf)
                    | fail
              · have hbad : ¬ (shB n c.dim k ∧ shB n c.dim v) := fun e => shB_bad2 (l := l) (j := p) hlk (by rw [← hr]; exact hpr) (by rw [← hr]; exact hyd) e.1
                rw [if_neg hbad]
                obtain ⟨y, hy⟩ : ∃ y, y = r.getD p [] := ⟨_, rfl⟩
                rw [← hy] at hb hy2 hyd
                repeat' first
                  | apply WP.seq
                  | (apply WP.region (E := eBCheck) mixed tbl_ok; conv => whnf)
                  | (apply WP.cond; conv => whnf)
                  | (apply WP.skip; conv => whnf)
                  | (apply WP.ret; conv => whnf)
                  | apply WP.block
                  | (apply ex_at hb; conv => whnf)
                  | (apply reg_and; (· kernel_rfl); conv => whnf)
                  | (apply ex_ilen; conv => whnf)
                  | (apply ex_eq; conv => whnf)
                  | (apply nd_gl; (· omega); conv => whnf)
                  | (apply And.intro; (· first | with_reducible rfl | exact trivial | exact Or.inl ⟨rfl, rfl⟩ | exact Or.inr rfl | decide | omega | (apply Nat.le_of_ble_eq_true; rfl) | (dsimp only; omega) | (simp only [ints_len, gl_len, mp_len, List.length_cons, List.length_nil, List.length_drop, List.length_take]; omega)); conv => whnf)
                  | apply br_not
                  | (apply br_yes; (· omega); conv => whnf)
                  | (apply br_no; (· omega); conv => whnf)
                  | fail
                all_goals omega
            · repeat' first
                | apply WP.seq
                | (apply WP.region (E := eBCheck) mixed tbl_ok; conv => whnf)
                | (apply WP.cond; conv => whnf)
                | (apply WP.exit; conv => whnf)
                | (apply reg_and; (· kernel_rfl); conv => whnf)
                | (apply ex_i64; (· omega); conv => whnf)
                | (apply ex_eq; conv => whnf)
                | (apply And.intro; (· first | with_reducible rfl | exact trivial | exact Or.inl ⟨rfl, rfl⟩ | exact Or.inr rfl | decide | omega | (apply Nat.le_of_ble_eq_true; rfl) | (dsimp only; omega) | (simp only [ints_len, gl_len, mp_len, List.length_cons, List.length_nil, List.length_drop, List.length_take]; omega)); conv => whnf)
                | (apply br_no; (· omega); conv => whnf)
                | fail
              refine Exists.intro (l + 1) (And.intro (And.intro ⟨by omega, fun q hq => ?_⟩ (by omega)) ?_)
              · by_cases e : q = l
                · subst e; rw [← hr]; exact ⟨hrn, fun j hj => hp2 j (by omega)⟩
                · exact hl2 q (by omega)
              · conv => whnf
                repeat' first
                  | apply True.intro
                  | (apply ptr_and; (· kernel_rfl); conv => whnf)
                  | omega
                  | (apply Or.inr; rfl)
                  | (apply or_row; (· rfl); (· rfl); rfl)
                  | (apply And.intro <;> conv => whnf)
                  | fail
          · have hbad : ¬ (shB n c.dim k ∧ shB n c.dim v) := fun e => shB_bad (l := l) hlk hrn e.1
            rw [if_neg hbad]
            obtain ⟨r, hr⟩ : ∃ r, r = k.getD l [] := ⟨_, rfl⟩
            rw [← hr] at ha hz hrn
            repeat' first
              | (rw [fz_rows]; conv => whnf)
              | apply WP.seq
              | (apply WP.region (E := eBCheck) mixed tbl_ok; conv => whnf)
              | (apply WP.cond; conv => whnf)
              | (apply WP.skip; conv => whnf)
              | (apply WP.ret; conv => whnf)
              | apply WP.block
              | (apply ex_at ha; conv => whnf)
              | (apply reg_and; (· kernel_rfl); conv => whnf)
              | (apply ex_glen; conv => whnf)
              | (apply ex_eq; conv => whnf)
              | (apply nd_gl; (· omega); conv => whnf)
              | (apply And.intro; (· first | with_reducible rfl | exact trivial | exact Or.inl ⟨rfl, rfl⟩ | exact Or.inr rfl | decide | omega | (apply Nat.le_of_ble_eq_true; rfl) | (dsimp only; omega) | (simp only [ints_len, gl_len, mp_len, List.length_cons, List.length_nil, List.length_drop, List.length_take]; omega)); conv => whnf)
              | apply br_not
              | (apply br_yes; (· omega); conv => whnf)
              | (apply br_no; (· omega); conv => whnf)
              | fail
            all_goals omega
        · have hsh : shB n c.dim k := shB_of fun p hp => hl2 p (by omega)
          clear hl2
          repeat' first
            | apply WP.seq
            | (apply WP.region (E := eBCheck) mixed tbl_ok; conv => whnf)
            | (apply WP.cond; conv => whnf)
            | (apply WP.exit; conv => whnf)
            | (apply reg_and; (· kernel_rfl); conv => whnf)
            | (apply ex_i64; (· omega); conv => whnf)
            | (apply ex_eq; conv => whnf)
            | (apply And.intro; (· first | with_reducible rfl | exact trivial | exact Or.inl ⟨rfl, rfl⟩ | exact Or.inr rfl | decide | omega | (apply Nat.le_of_ble_eq_true; rfl) | (dsimp only; omega) | (simp only [ints_len, gl_len, mp_len, List.length_cons, List.length_nil, List.length_drop, List.length_take]; omega)); conv => whnf)
            | (apply br_no; (· omega); conv => whnf)
            | fail
          refine Exists.intro (0 + 1) (And.intro (And.intro ⟨by omega, fun _ => hsh, fun h => absurd h (by omega)⟩ (by omega)) ?_)
          conv => whnf
          repeat' first
            | apply True.intro
            | (apply ptr_and; (· kernel_rfl); conv => whnf)
            | omega
            | (apply Or.inr; rfl)
            | (apply or_row; (· rfl); (· rfl); rfl)
            | (apply And.intro <;> conv => whnf)
            | fail
      · skip
        have hKz := hv.2
        have ha0 : ([AV.sl none n2 1 true (gl (rowsA none) k), AV.sl none n3 1 true (gl (rowsA none) v)] : List AV)[((1 : Nat) : Int).toNat]? = some (AV.sl none n3 1 true (gl (rowsA none) v)) := rfl
        repeat' first
          | apply WP.seq
          | (apply WP.region (E := eBCheck) mixed tbl_ok; conv => whnf)
          | (apply WP.cond; conv => whnf)
          | (apply WP.skip; conv => whnf)
          | apply WP.block
          | (apply ex_at ha0; conv => whnf)
          | (apply reg_and; (· kernel_rfl); conv => whnf)
          | (apply ex_glen; conv => whnf)
          | (apply ex_eq; conv => whnf)
          | (apply And.intro; (· first | with_reducible rfl | exact trivial | exact Or.inl ⟨rfl, rfl⟩ | exact Or.inr rfl | decide | omega | (apply Nat.le_of_ble_eq_true; rfl) | (dsimp only; omega) | (simp only [ints_len, gl_len, mp_len, List.length_cons, List.length_nil, List.length_drop, List.length_take]; omega)); conv => whnf)
          | (apply br_t; conv => whnf)
          | fail
        refine WP.loopM [11, 13, 85, 86, 92, 93, 94, 95, 96, 103] (fun l : Nat => [(85, .i .i64 l)]) (fun l => l ≤ v.length ∧ ∀ p, p < l → ((v.getD p []).length : Int) = n ∧ ∀ q, q < (v.getD p []).length → (((v.getD p []).getD q []).length : Int) = c.dim) (fun l => v.length - l) 0 ?_
        conv => whnf
        refine And.intro (And.intro ?_ ?_) (fun l hl => ?_)
        · exact ⟨Nat.zero_le _, fun p hp => absurd hp (by omega)⟩
        · conv => whnf
          repeat' first
            | apply True.intro
            | (apply ptr_and; (· kernel_rfl); conv => whnf)
            | omega
            | (apply Or.inr; rfl)
            | (apply or_row; (· rfl); (· rfl); rfl)
            | (apply And.intro <;> conv => whnf)
            | fail
        conv => whnf
        obtain ⟨hl1, hl2⟩ := hl
        by_cases hlk : l < v.length
        · have ha := gl_at (f := rowsA none) (l := v) (i := l) [] hlk
          have hz := hKz _ (getD_in (l := v) (i := l) [] hlk)
          by_cases hrn : ((v.getD l []).length : Int) = n
          · obtain ⟨r, hr⟩ : ∃ r, r = v.getD l [] := ⟨_, rfl⟩
            rw [← hr] at ha hz hrn
            obtain ⟨hz1, hz2⟩ := hz
            repeat' first
              | (rw [fz_rows]; conv => whnf)
              | apply WP.seq
              | (apply WP.region (E := eBCheck) mixed tbl_ok; conv => whnf)
              | (apply WP.cond; conv => whnf)
              | (apply WP.skip; conv => whnf)
              | apply WP.block
              | (apply ex_at ha; conv => whnf)
              | (apply reg_and; (· kernel_rfl); conv => whnf)
              | (apply ex_glen; conv => whnf)
              | (apply ex_eq; conv => whnf)
              | (apply nd_gl; (· omega); conv => whnf)
              | (apply And.intro; (· first | with_reducible rfl | exact trivial | exact Or.inl ⟨rfl, rfl⟩ | exact Or.inr rfl | decide | omega | (apply Nat.le_of_ble_eq_true; rfl) | (dsimp only; omega) | (simp only [ints_len, gl_len, mp_len, List.length_cons, List.length_nil, List.length_drop, List.length_take]; omega)); conv => whnf)
              | apply br_not
              | (apply br_yes; (· omega); conv => whnf)
              | fail
            refine WP.loopM [13, 95, 96, 103] (fun p : Nat => [(95, .i .i64 p)]) (fun p => p ≤ r.length ∧ ∀ q, q < p → ((r.getD q []).length : Int) = c.dim) (fun p => r.length - p) 0 ?_
            conv => whnf
            refine And.intro (And.intro ?_ ?_) (fun p hp => ?_)
            · exact ⟨Nat.zero_le _, fun q hq => absurd hq (by omega)⟩
            · conv => whnf
              repeat' first
                | apply True.intro
                | (apply ptr_and; (· kernel_rfl); conv => whnf)
                | omega
                | (apply Or.inr; rfl)
                | (apply or_row; (· rfl); (· rfl); rfl)
                | (apply And.intro <;> conv => whnf)
                | fail
            conv => whnf
            obtain ⟨hp1, hp2⟩ := hp
            by_cases hpr : p < r.length
            · have hb := gl_at (f := rowA none) (l := r) (i := p) [] hpr
              have hy2 := hz2 _ (getD_in (l := r) (i := p) [] hpr)
              by_cases hyd : ((r.getD p []).length : Int) = c.dim
              · obtain ⟨y, hy⟩ : ∃ y, y = r.getD p [] := ⟨_, rfl⟩
                rw [← hy] at hb hy2 hyd
                repeat' first
                  | apply WP.seq
                  | (apply WP.region (E := eBCheck) mixed tbl_ok; conv => whnf)
                  | (apply WP.cond; conv => whnf)
                  | (apply WP.skip; conv => whnf)
                  | apply WP.block
                  | (apply ex_at hb; conv => whnf)
                  | (apply reg_and; (· kernel_rfl); conv => whnf)
                  | (apply ex_ilen; conv => whnf)
                  | (apply ex_i64; (· omega); conv => whnf)
                  | (apply ex_eq; conv => whnf)
                  | (apply nd_gl; (· omega); conv => whnf)
                  | (apply And.intro; (· first | with_reducible rfl | exact trivial | exact Or.inl ⟨rfl, rfl⟩ | exact Or.inr rfl | decide | omega | (apply Nat.le_of_ble_eq_true; rfl) | (dsimp only; omega) | (simp only [ints_len, gl_len, mp_len, List.length_cons, List.length_nil, List.length_drop, List.length_take]; omega)); conv => whnf)
                  | apply br_not
                  | (apply br_yes; (· omega); conv => whnf)
                  | fail
                refine Exists.intro (p + 1) (And.intro (And.intro ⟨by omega, fun q hq => ?_⟩ (by omega)) ?_)
                · by_cases e : q = p
                  · subst e; rw [← hy]; exact hyd
                  · exact hp2 q (by omega)
                · conv => whnf
                  repeat' first
                    | apply True.intro
                    | (apply ptr_and; (· kernel_rfl); conv => whnf)
                    | omega
                    | (apply Or.inr; rfl)
                    | (apply or_row; (· rfl); (· rfl); rfl)
                    | (apply And.intro <;> conv => whnf)
                    | fail
              · have hbad : ¬ (shB n c.dim k ∧ shB n c.dim v) := fun e => shB_bad2 (l := l) (j := p) hlk (by rw [← hr]; exact hpr) (by rw [← hr]; exact hyd) e.2
                rw [if_neg hbad]
                obtain ⟨y, hy⟩ : ∃ y, y = r.getD p [] := ⟨_, rfl⟩
                rw [← hy] at hb hy2 hyd
                repeat' first
                  | apply WP.seq
                  | (apply WP.region (E := eBCheck) mixed tbl_ok; conv => whnf)
                  | (apply WP.cond; conv => whnf)
                  | (apply WP.skip; conv => whnf)
                  | (apply WP.ret; conv => whnf)
                  | apply WP.block
                  | (apply ex_at hb; conv => whnf)
                  | (apply reg_and; (· kernel_rfl); conv => whnf)
                  | (apply ex_ilen; conv => whnf)
                  | (apply ex_eq; conv => whnf)
                  | (apply nd_gl; (· omega); conv => whnf)
                  | (apply And.intro; (· first | with_reducible rfl | exact trivial | exact Or.inl ⟨rfl, rfl⟩ | exact Or.inr rfl | decide | omega | (apply Nat.le_of_ble_eq_true; rfl) | (dsimp only; omega) | (simp only [ints_len, gl_len, mp_len, List.length_cons, List.length_nil, List.length_drop, List.length_take]; omega)); conv => whnf)
                  | apply br_not
                  | (apply br_yes; (· omega); conv => whnf)
                  | (apply br_no; (· omega); conv => whnf)
                  | fail
                all_goals omega
            · repeat' first
                | apply WP.seq
                | (apply WP.region (E := eBCheck) mixed tbl_ok; conv => whnf)
                | (apply WP.cond; conv => whnf)
                | (apply WP.exit; conv => whnf)
                | (apply reg_and; (· kernel_rfl); conv => whnf)
                | (apply ex_i64; (· omega); conv => whnf)
                | (apply ex_eq; conv => whnf)
                | (apply And.intro; (· first | with_reducible rfl | exact trivial | exact Or.inl ⟨rfl, rfl⟩ | exact Or.inr rfl | decide | omega | (apply Nat.le_of_ble_eq_true; rfl) | (dsimp only; omega) | (simp only [ints_len, gl_len, mp_len, List.length_cons, List.length_nil, List.length_drop, List.length_take]; omega)); conv => whnf)
                | (apply br_no; (· omega); conv => whnf)
                | fail
              refine Exists.intro (l + 1) (And.intro (And.intro ⟨by omega, fun q hq => ?_⟩ (by omega)) ?_)
              · by_cases e : q = l
                · subst e; rw [← hr]; exact ⟨hrn, fun j hj => hp2 j (by omega)⟩
                · exact hl2 q (by omega)
              · conv => whnf
                repeat' first
                  | apply True.intro
                  | (apply ptr_and; (· kernel_rfl); conv => whnf)
                  | omega
                  | (apply Or.inr; rfl)
                  | (apply or_row; (· rfl); (· rfl); rfl)
                  | (apply And.intro <;> conv => whnf)
                  | fail
          · have hbad : ¬ (shB n c.dim k ∧ shB n c.dim v) := fun e => shB_bad (l := l) hlk hrn e.2
            rw [if_neg hbad]
            obtain ⟨r, hr⟩ : ∃ r, r = v.getD l [] := ⟨_, rfl⟩
            rw [← hr] at ha hz hrn
            repeat' first
              | (rw [fz_rows]; conv => whnf)
              | apply WP.seq
              | (apply WP.region (E := eBCheck) mixed tbl_ok; conv => whnf)
              | (apply WP.cond; conv => whnf)
              | (apply WP.skip; conv => whnf)
              | (apply WP.ret; conv => whnf)
              | apply WP.block
              | (apply ex_at ha; conv => whnf)
              | (apply reg_and; (· kernel_rfl); conv => whnf)
              | (apply ex_glen; conv => whnf)
              | (apply ex_eq; conv => whnf)
              | (apply nd_gl; (· omega); conv => whnf)
              | (apply And.intro; (· first | with_reducible rfl | exact trivial | exact Or.inl ⟨rfl, rfl⟩ | exact Or.inr rfl | decide | omega | (apply Nat.le_of_ble_eq_true; rfl) | (dsimp only; omega) | (simp only [ints_len, gl_len, mp_len, List.length_cons, List.length_nil, List.length_drop, List.length_take]; omega)); conv => whnf)
              | apply br_not
              | (apply br_yes; (· omega); conv => whnf)
              | (apply br_no; (· omega); conv => whnf)
              | fail
            all_goals omega
        · have hsh : shB n c.dim v := shB_of fun p hp => hl2 p (by omega)
          clear hl2
          repeat' first
            | apply WP.seq
            | (apply WP.region (E := eBCheck) mixed tbl_ok; conv => whnf)
            | (apply WP.cond; conv => whnf)
            | (apply WP.exit; conv => whnf)
            | (apply reg_and; (· kernel_rfl); conv => whnf)
            | (apply ex_i64; (· omega); conv => whnf)
            | (apply ex_eq; conv => whnf)
            | (apply And.intro; (· first | with_reducible rfl | exact trivial | exact Or.inl ⟨rfl, rfl⟩ | exact Or.inr rfl | decide | omega | (apply Nat.le_of_ble_eq_true; rfl) | (dsimp only; omega) | (simp only [ints_len, gl_len, mp_len, List.length_cons, List.length_nil, List.length_drop, List.length_take]; omega)); conv => whnf)
            | (apply br_no; (· omega); conv => whnf)
            | fail
          refine Exists.intro (1 + 1) (And.intro (And.intro ⟨by omega, fun _ => hs1 (by omega), fun _ => hsh⟩ (by omega)) ?_)
          conv => whnf
          repeat' first
            | apply True.intro
            | (apply ptr_and; (· kernel_rfl); conv => whnf)
            | omega
            | (apply Or.inr; rfl)
            | (apply or_row; (· rfl); (· rfl); rfl)
            | (apply And.intro <;> conv => whnf)
            | fail
      · rw [if_pos ⟨hs1 (by omega), hs2 (by omega)⟩]
        repeat' first
          | apply WP.seq
          | (apply WP.region (E := eBCheck) mixed tbl_ok; conv => whnf)
          | (apply WP.cond; conv => whnf)
          | (apply WP.ret; conv => whnf)
          | (apply WP.exit; conv => whnf)
          | (apply reg_and; (· kernel_rfl); conv => whnf)
          | (apply ex_eq; conv => whnf)
          | (apply And.intro; (· first | with_reducible rfl | exact trivial | exact Or.inl ⟨rfl, rfl⟩ | exact Or.inr rfl | decide | omega | (apply Nat.le_of_ble_eq_true; rfl) | (dsimp only; omega) | (simp only [ints_len, gl_len, mp_len, List.length_cons, List.length_nil, List.length_drop, List.length_take]; omega)); conv => whnf)
          | (apply br_f; conv => whnf)
          | fail
  · rw [if_neg hfr]
    have hfr : ¬ (0 ≤ f ∧ f < t.length ∧ (t.length : Int) - f ≤ 16 ∧ t.length ≤ 128 ∧ (k.length : Int) = c.layers ∧ (v.length : Int) = c.layers) := hfr
    by_cases hf0 : f < 0
    · refine impl_of (fn := Try.f13) tbl_ok (by kernel_rfl) (by kernel_rfl) rfl ⟨by simp [Try.f13], by decide⟩ rfl fun W0 => ?_
      repeat' first
        | apply WP.seq
        | (apply WP.region (E := eBCheck) mixed tbl_ok; conv => whnf)
        | (apply WP.cond; conv => whnf)
        | (apply WP.ret; conv => whnf)
        | (apply reg_and; (· kernel_rfl); conv => whnf)
        | (apply ex_ilen; conv => whnf)
        | (apply ex_eq; conv => whnf)
        | ((with_reducible apply gd_t); conv => whnf)
        | (apply gd_br)
        | (apply And.intro; (· first | with_reducible rfl | exact trivial | exact Or.inl ⟨rfl, rfl⟩ | exact Or.inr rfl | decide | omega | (apply Nat.le_of_ble_eq_true; rfl) | (dsimp only; omega) | (simp only [ints_len, gl_len, mp_len, List.length_cons, List.length_nil, List.length_drop, List.length_take]; omega)); conv => whnf)
        | (apply br_t; conv => whnf)
        | (apply br_yes; (· omega); conv => whnf)
        | fail
    · refine impl_of (fn := Try.f13) tbl_ok (by kernel_rfl) (by kernel_rfl) rfl ⟨by simp [Try.f13], by decide⟩ rfl fun W0 => ?_
      repeat' first
        | apply WP.seq
        | (apply WP.region (E := eBCheck) mixed tbl_ok; conv => whnf)
        | (apply WP.cond; conv => whnf)
        | (apply WP.ret; conv => whnf)
        | (apply reg_and; (· kernel_rfl); conv => whnf)
        | (apply ex_ilen; conv => whnf)
        | (apply ex_glen; conv => whnf)
        | (apply ex_i64; (· omega); conv => whnf)
        | (apply ex_eq; conv => whnf)
        | ((with_reducible apply gd_t); conv => whnf)
        | ((with_reducible apply gd_f); conv => whnf)
        | (apply gd_br)
        | (apply And.intro; (· first | with_reducible rfl | exact trivial | exact Or.inl ⟨rfl, rfl⟩ | exact Or.inr rfl | decide | omega | (apply Nat.le_of_ble_eq_true; rfl) | (dsimp only; omega) | (simp only [ints_len, gl_len, mp_len, List.length_cons, List.length_nil, List.length_drop, List.length_take]; omega)); conv => whnf)
        | apply br_not
        | (apply br_t; conv => whnf)
        | (apply br_yes; (· omega); conv => whnf)
        | (apply br_no; (· omega); conv => whnf)
        | (apply br_dec <;> intro hbr <;> (first | rw [decide_eq_true hbr] | rw [decide_eq_false hbr] | skip) <;> conv => whnf)
        | fail
      all_goals omega
end Go.Proofs.Ytjihjjbieeofdaa.T

