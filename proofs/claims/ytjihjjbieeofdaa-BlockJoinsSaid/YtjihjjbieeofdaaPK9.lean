/- What functions of the program come to, on trees. No condition but those that the theorems name. -/
import Derived.Test.YtjihjjbieeofdaaPK8
namespace Go.Proofs.Ytjihjjbieeofdaa.T
set_option linter.unusedSimpArgs false
set_option linter.unusedVariables false
open Go
set_option linter.unusedVariables false
set_option maxHeartbeats 8000000
set_option maxRecDepth 100000
def eRCheck11 : Env := ⟨tbl, [], [], [], [(0, [2, 3, 3999, 3000, 3001, 3002, 3003, 3004, 4999, 4000, 4001, 4002, 4003]), (1, [2, 3, 49, 3999, 3000, 3001, 3002, 3003, 3004, 4999, 4000, 4001, 4002, 4003]), (2, [4]), (3, [2, 3, 51, 52, 53, 3999, 3000, 3001, 3002, 3003, 3004, 4999, 4000, 4001, 4002, 4003]), (4, [2, 3, 51, 52, 53, 54, 3999, 3000, 3001, 3002, 3003, 3004, 4999, 4000, 4001, 4002, 4003]), (5, [2, 3, 6, 51, 52, 53, 3999, 3000, 3001, 3002, 3003, 3004, 4999, 4000, 4001, 4002, 4003]), (6, [2, 3, 51, 52, 53, 64, 3999, 3000, 3001, 3002, 3003, 3004, 4999, 4000, 4001, 4002, 4003]), (7, [4]), (8, [2, 3, 51, 52, 53, 3999, 3000, 3001, 3002, 3003, 3004, 4999, 4000, 4001, 4002, 4003]), (9, [2, 3, 7, 3999, 3000, 3001, 3002, 3003, 3004, 4999, 4000, 4001, 4002, 4003]), (10, [87]), (11, [4]), (12, [4])]⟩
theorem rcheck11_ok {n1 n2 n3 : Option Bool} (c : Cfg) {t : List Int} {f : Int} {k v : List (List (List Int))} (ht : t.length ≤ 1000000) (hf : IntKind.i64.min ≤ f ∧ f ≤ IntKind.i64.max) (hk : Siz3 k) (hv : Siz3 v) : Impl Try.prog 14 [cfgA c, bkA t f k v n1 n2 n3] (.i .i64 (chkB c t f k v)) := by
  have hk1 := hk.1
  have hv1 := hv.1
  have hf2 : -9223372036854775808 ≤ f ∧ f ≤ 9223372036854775807 := hf
  have hS1 := fun {nl : Option Bool} => shaped_ok (nl := nl) (n := t.length - f) (d := c.dim) hk
  have hS2 := fun {nl : Option Bool} => shaped_ok (nl := nl) (n := t.length - f) (d := c.dim) hv
  unfold chkB
  by_cases hfr : frm c t f k v
  · rw [if_pos hfr]
    obtain ⟨h1, h2, h3, h4, h5, h6⟩ := hfr
    refine impl_of (fn := Try.f14) tbl_ok (by kernel_rfl) (by kernel_rfl) rfl ⟨by simp [Try.f14], by decide⟩ rfl fun W0 => ?_
    repeat' first
      | apply WP.seq
      | (apply WP.region (E := eRCheck11) mixed tbl_ok; conv => whnf)
      | (apply WP.cond; conv => whnf)
      | (apply WP.skip; conv => whnf)
      | apply WP.block
      | (apply reg_and; (· kernel_rfl); conv => whnf)
      | (apply ex_ilen; conv => whnf)
      | (apply ex_glen; conv => whnf)
      | (apply ex_i64; (· omega); conv => whnf)
      | (apply ex_eq; conv => whnf)
      | (apply gd_br)
      | (apply And.intro; (· first | with_reducible rfl | exact trivial | exact Or.inl ⟨rfl, rfl⟩ | exact Or.inr rfl | decide | omega | (apply Nat.le_of_ble_eq_true; rfl) | (dsimp only; omega) | (simp only [ints_len, gl_len, mp_len, List.length_cons, List.length_nil, List.length_drop, List.length_take]; omega)); conv => whnf)
      | apply br_not
      | (apply br_yes; (· omega); conv => whnf)
      | (apply br_no; (· omega); conv => whnf)
      | fail
    refine WP.loopM [6, 53, 54, 64] (fun i : Nat => [(53, .i .i64 i)]) (fun i => i ≤ t.length ∧ ∀ j, j < i → 0 ≤ t.getD j 0 ∧ t.getD j 0 < c.vocab) (fun i => t.length - i) 0 ?_
    conv => whnf
    refine And.intro (And.intro ?_ ?_) (fun i hi => ?_)
    · exact ⟨Nat.zero_le _, fun j hj => absurd hj (by omega)⟩
    · conv => whnf
      repeat' first
        | apply True.intro
        | (apply ptr_and; (· kernel_rfl); conv => whnf)
        | omega
        | (apply Or.inr; rfl)
        | (apply or_row; (· rfl); (· rfl); rfl)
        | (apply And.intro <;> conv => whnf)
        | fail
    conv => whnf
    obtain ⟨hi1, hi2⟩ := hi
    by_cases hit : i < t.length
    · have hg : t.getD ((i : Nat) : Int).toNat 0 = t.getD i 0 := by rw [Int.toNat_natCast]
      by_cases hgd : 0 ≤ t.getD i 0 ∧ t.getD i 0 < c.vocab
      · have hx := hgd
        rw [← hg] at hx
        repeat' first
          | apply WP.seq
          | (apply WP.region (E := eRCheck11) mixed tbl_ok; conv => whnf)
          | (apply WP.cond; conv => whnf)
          | (apply WP.skip; conv => whnf)
          | apply WP.block
          | (apply reg_and; (· kernel_rfl); conv => whnf)
          | (apply ex_i64; (· omega); conv => whnf)
          | (apply ex_ints; (· omega); conv => whnf)
          | (apply ex_eq; conv => whnf)
          | (apply gd_br)
          | (apply nd_ints; (· omega); conv => whnf)
          | (apply And.intro; (· first | with_reducible rfl | exact trivial | exact Or.inl ⟨rfl, rfl⟩ | exact Or.inr rfl | decide | omega | (apply Nat.le_of_ble_eq_true; rfl) | (dsimp only; omega) | (simp only [ints_len, gl_len, mp_len, List.length_cons, List.length_nil, List.length_drop, List.length_take]; omega)); conv => whnf)
          | (apply br_yes; (· omega); conv => whnf)
          | (apply br_no; (· omega); conv => whnf)
          | fail
        refine Exists.intro (i + 1) (And.intro (And.intro ⟨by omega, fun j hj => ?_⟩ (by omega)) ?_)
        · by_cases e : j = i
          · subst e; exact hgd
          · exact hi2 j (by omega)
        · conv => whnf
          repeat' first
            | apply True.intro
            | (apply ptr_and; (· kernel_rfl); conv => whnf)
            | omega
            | (apply Or.inr; rfl)
            | (apply or_row; (· rfl); (· rfl); rfl)
            | (apply And.intro <;> conv => whnf)
            | fail
      · rw [if_neg (fun e : toks c.vocab t => hgd (by have := toks_get e hit; rwa [hg] at this))]
        rw [← hg] at hgd
        repeat' first
          | apply WP.seq
          | (apply WP.region (E := eRCheck11) mixed tbl_ok; conv => whnf)
          | (apply WP.cond; conv => whnf)
          | (apply WP.skip; conv => whnf)
          | (apply WP.ret; conv => whnf)
          | apply WP.block
          | (apply reg_and; (· kernel_rfl); conv => whnf)
          | (apply ex_ints; (· omega); conv => whnf)
          | (apply ex_eq; conv => whnf)
          | ((with_reducible apply gd_t); conv => whnf)
          | ((with_reducible apply gd_f); conv => whnf)
          | (apply gd_br)
          | (apply nd_ints; (· omega); conv => whnf)
          | (apply And.intro; (· first | with_reducible rfl | exact trivial | exact Or.inl ⟨rfl, rfl⟩ | exact Or.inr rfl | decide | omega | (apply Nat.le_of_ble_eq_true; rfl) | (dsimp only; omega) | (simp only [ints_len, gl_len, mp_len, List.length_cons, List.length_nil, List.length_drop, List.length_take]; omega)); conv => whnf)
          | (apply br_t; conv => whnf)
          | (apply br_yes; (· omega); conv => whnf)
          | (apply br_dec <;> intro hbr <;> (first | rw [decide_eq_true hbr] | rw [decide_eq_false hbr] | skip) <;> conv => whnf)
          | fail
        all_goals omega
    · rw [if_pos (toks_of fun j hj => hi2 j (by omega))]
      clear hi2
      by_cases s1 : shB (t.length - f) c.dim k
      · rw [decide_eq_true s1] at hS1
        by_cases s2 : shB (t.length - f) c.dim v
        · rw [decide_eq_true s2] at hS2
          rw [if_pos ⟨s1, s2⟩]
          repeat' first
            | (rw [fz_rows3]; conv => whnf)
            | apply WP.seq
            | (apply WP.region (E := eRCheck11) mixed tbl_ok; conv => whnf)
            | (apply WP.cond; conv => whnf)
            | (apply WP.skip; conv => whnf)
            | (apply WP.ret; conv => whnf)
            | (apply WP.exit; conv => whnf)
            | (apply reg_and; (· kernel_rfl); conv => whnf)
            | (apply ex_and; (· with_reducible exact hS1); conv => whnf)
            | (apply ex_and; (· with_reducible exact hS2); conv => whnf)
            | (apply ex_ilen; conv => whnf)
            | (apply ex_i64; (· omega); conv => whnf)
            | (apply ex_eq; conv => whnf)
            | ((with_reducible apply gd_nt); conv => whnf)
            | (apply And.intro; (· first | with_reducible rfl | exact trivial | exact Or.inl ⟨rfl, rfl⟩ | exact Or.inr rfl | decide | omega | (apply Nat.le_of_ble_eq_true; rfl) | (dsimp only; omega) | (simp only [ints_len, gl_len, mp_len, List.length_cons, List.length_nil, List.length_drop, List.length_take]; omega)); conv => whnf)
            | apply br_not
            | (apply br_t; conv => whnf)
            | (apply br_no; (· omega); conv => whnf)
            | fail
        · rw [decide_eq_false s2] at hS2
          rw [if_neg fun e => s2 e.2]
          repeat' first
            | (rw [fz_rows3]; conv => whnf)
            | apply WP.seq
            | (apply WP.region (E := eRCheck11) mixed tbl_ok; conv => whnf)
            | (apply WP.cond; conv => whnf)
            | (apply WP.ret; conv => whnf)
            | (apply WP.exit; conv => whnf)
            | (apply reg_and; (· kernel_rfl); conv => whnf)
            | (apply ex_and; (· with_reducible exact hS1); conv => whnf)
            | (apply ex_and; (· with_reducible exact hS2); conv => whnf)
            | (apply ex_ilen; conv => whnf)
            | (apply ex_i64; (· omega); conv => whnf)
            | (apply ex_eq; conv => whnf)
            | ((with_reducible apply gd_nt); conv => whnf)
            | (apply And.intro; (· first | with_reducible rfl | exact trivial | exact Or.inl ⟨rfl, rfl⟩ | exact Or.inr rfl | decide | omega | (apply Nat.le_of_ble_eq_true; rfl) | (dsimp only; omega) | (simp only [ints_len, gl_len, mp_len, List.length_cons, List.length_nil, List.length_drop, List.length_take]; omega)); conv => whnf)
            | apply br_not
            | (apply br_f; conv => whnf)
            | (apply br_no; (· omega); conv => whnf)
            | fail
      · rw [decide_eq_false s1] at hS1
        rw [if_neg fun e => s1 e.1]
        repeat' first
          | (rw [fz_rows3]; conv => whnf)
          | apply WP.seq
          | (apply WP.region (E := eRCheck11) mixed tbl_ok; conv => whnf)
          | (apply WP.cond; conv => whnf)
          | (apply WP.ret; conv => whnf)
          | (apply WP.exit; conv => whnf)
          | (apply reg_and; (· kernel_rfl); conv => whnf)
          | (apply ex_and; (· with_reducible exact hS1); conv => whnf)
          | (apply ex_ilen; conv => whnf)
          | (apply ex_i64; (· omega); conv => whnf)
          | (apply ex_eq; conv => whnf)
          | ((with_reducible apply gd_nf); conv => whnf)
          | (apply And.intro; (· first | with_reducible rfl | exact trivial | exact Or.inl ⟨rfl, rfl⟩ | exact Or.inr rfl | decide | omega | (apply Nat.le_of_ble_eq_true; rfl) | (dsimp only; omega) | (simp only [ints_len, gl_len, mp_len, List.length_cons, List.length_nil, List.length_drop, List.length_take]; omega)); conv => whnf)
          | (apply br_t; conv => whnf)
          | (apply br_no; (· omega); conv => whnf)
          | fail
  · rw [if_neg hfr]
    have hfr : ¬ (0 ≤ f ∧ f < t.length ∧ (t.length : Int) - f ≤ 16 ∧ t.length ≤ 128 ∧ (k.length : Int) = c.layers ∧ (v.length : Int) = c.layers) := hfr
    refine impl_of (fn := Try.f14) tbl_ok (by kernel_rfl) (by kernel_rfl) rfl ⟨by simp [Try.f14], by decide⟩ rfl fun W0 => ?_
    repeat' first
      | apply WP.seq
      | (apply WP.region (E := eRCheck11) mixed tbl_ok; conv => whnf)
      | (apply WP.cond; conv => whnf)
      | (apply WP.ret; conv => whnf)
      | (apply reg_and; (· kernel_rfl); conv => whnf)
      | (apply ex_ilen; conv => whnf)
      | (apply ex_glen; conv => whnf)
      | (apply ex_i64; (· omega); conv => whnf)
      | (apply ex_eq; conv => whnf)
      | ((with_reducible apply gd_t); conv => whnf)
      | ((with_reducible apply gd_f); conv => whnf)
      | (apply gd_br)
      | (apply And.intro; (· first | with_reducible rfl | exact trivial | exact Or.inl ⟨rfl, rfl⟩ | exact Or.inr rfl | decide | omega | (apply Nat.le_of_ble_eq_true; rfl) | (dsimp only; omega) | (simp only [ints_len, gl_len, mp_len, List.length_cons, List.length_nil, List.length_drop, List.length_take]; omega)); conv => whnf)
      | apply br_not
      | (apply br_t; conv => whnf)
      | (apply br_yes; (· omega); conv => whnf)
      | (apply br_no; (· omega); conv => whnf)
      | (apply br_dec <;> intro hbr <;> (first | rw [decide_eq_true hbr] | rw [decide_eq_false hbr] | skip) <;> conv => whnf)
      | fail
    all_goals omega
def eEqual : Env := ⟨tbl, [], [], [], [(0, [0, 1]), (1, [0, 1, 10]), (2, [4]), (3, [0, 1, 12, 13]), (4, [0, 1, 12, 13, 14]), (5, [0, 1, 5, 12, 13]), (6, [0, 1, 12, 13, 24]), (7, [4]), (8, [0, 1, 12, 13]), (9, [4])]⟩
theorem equal_ok {n1 n2 : Option Bool} {a b : List Int} (hl : a.length ≤ 1000000) : Impl Try.prog 46 [.sl none n1 1 false (ints .i64 a), .sl none n2 1 false (ints .i64 b)] (.b (decide (a = b))) := by
  refine impl_of (fn := Try.f46) tbl_ok (by kernel_rfl) (by kernel_rfl) rfl ⟨by simp [Try.f46], by decide⟩ rfl fun W0 => ?_
  repeat' first
    | apply WP.seq
    | (apply WP.region (E := eEqual) mixed tbl_ok; conv => whnf)
    | (apply WP.cond; conv => whnf)
    | (apply WP.skip; conv => whnf)
    | (apply WP.ret; conv => whnf)
    | apply WP.block
    | (apply reg_and; (· kernel_rfl); conv => whnf)
    | (apply ex_ilen; conv => whnf)
    | (apply ex_eq; conv => whnf)
    | (apply And.intro; (· first | with_reducible rfl | exact trivial | exact Or.inl ⟨rfl, rfl⟩ | exact Or.inr rfl | decide | omega | (apply Nat.le_of_ble_eq_true; rfl) | (dsimp only; omega) | (simp only [ints_len, gl_len, mp_len, List.length_cons, List.length_nil, List.length_drop, List.length_take]; omega)); conv => whnf)
    | apply br_not
    | (apply br_dec <;> intro hbr <;> (first | rw [decide_eq_true hbr] | rw [decide_eq_false hbr] | skip) <;> conv => whnf)
    | fail
  · refine WP.loopM [5, 13, 14, 24] (fun i : Nat => [(13, .i .i64 i)]) (fun i => i ≤ a.length ∧ ∀ j, j < i → a.getD j 0 = b.getD j 0) (fun i => a.length - i) 0 ?_
    conv => whnf
    refine And.intro (And.intro ?_ ?_) (fun i hi => ?_)
    · exact ⟨by omega, fun j hj => absurd hj (by omega)⟩
    · conv => whnf
      repeat' first
        | apply True.intro
        | (apply ptr_and; (· kernel_rfl); conv => whnf)
        | omega
        | (apply Or.inr; rfl)
        | (apply or_row; (· rfl); (· rfl); rfl)
        | (apply And.intro <;> conv => whnf)
        | fail
    conv => whnf
    obtain ⟨hi1, hi2⟩ := hi
    repeat' first
      | apply WP.seq
      | (apply WP.region (E := eEqual) mixed tbl_ok; conv => whnf)
      | (apply WP.cond; conv => whnf)
      | (apply WP.skip; conv => whnf)
      | (apply WP.ret; conv => whnf)
      | (apply WP.exit; conv => whnf)
      | apply WP.block
      | (apply reg_and; (· kernel_rfl); conv => whnf)
      | (apply ex_i64; (· omega); conv => whnf)
      | (apply ex_ints; (· omega); conv => whnf)
      | (apply ex_eq; conv => whnf)
      | (apply nd_ints; (· omega); conv => whnf)
      | (apply And.intro; (· first | with_reducible rfl | exact trivial | exact Or.inl ⟨rfl, rfl⟩ | exact Or.inr rfl | decide | omega | (apply Nat.le_of_ble_eq_true; rfl) | (dsimp only; omega) | (simp only [ints_len, gl_len, mp_len, List.length_cons, List.length_nil, List.length_drop, List.length_take]; omega)); conv => whnf)
      | apply br_not
      | (apply br_dec <;> intro hbr <;> (first | rw [decide_eq_true hbr] | rw [decide_eq_false hbr] | skip) <;> conv => whnf)
      | fail
    · refine Exists.intro (i + 1) (And.intro (And.intro ⟨by omega, fun j hj => ?_⟩ (by omega)) ?_)
      · by_cases e : j = i
        · subst e; rw [Int.toNat_natCast] at *; omega
        · exact hi2 j (by omega)
      · conv => whnf
        repeat' first
          | apply True.intro
          | (apply ptr_and; (· kernel_rfl); conv => whnf)
          | omega
          | (apply Or.inr; rfl)
          | (apply or_row; (· rfl); (· rfl); rfl)
          | (apply And.intro <;> conv => whnf)
          | fail
    · refine (decide_eq_false fun e => ?_).symm
      subst e
      exact absurd rfl (by assumption)
    · exact (decide_eq_true (list_ext (by omega) fun j hj => hi2 j (by omega))).symm
  · exact (decide_eq_false fun e => by subst e; omega).symm
def winR (a b : Nat) (r : List (List Int)) : List (List Int) := (r.take b).drop a
def winL (a b : Nat) (K : List (List (List Int))) : List (List (List Int)) := K.map (winR a b)
def eWindow : Env := ⟨tbl, [], [32, 37], [], [(0, [0, 1, 2]), (1, [0, 1, 2, 7]), (2, [1, 2, 7, 13, 14, 15]), (3, [1, 2, 7, 13, 14, 15, 16]), (4, [1, 2, 7, 9, 13, 14, 15]), (5, [1, 2, 7, 9, 10, 13, 14, 15]), (6, [1, 2, 7, 10, 13, 14, 15, 22, 23, 24]), (7, [1, 2, 7, 10, 13, 14, 15, 22, 23, 24, 25]), (8, [1, 2, 7, 10, 12, 13, 14, 15, 22, 23, 24]), (9, [1, 2, 7, 10, 13, 14, 15, 22, 23, 24]), (10, [1, 2, 7, 10, 13, 14, 15, 22, 23, 24]), (11, [1, 2, 7, 13, 14, 15]), (12, [1, 2, 7, 13, 14, 15]), (13, [6])]⟩
theorem window_ok {nl : Option Bool} {K : List (List (List Int))} (a b : Nat) (hK : Siz3 K) (hab : a ≤ b) (hb : ∀ r ∈ K, b ≤ r.length) (hb2 : b ≤ 1000000) : Impl Try.prog 47 [.sl none nl 1 true (gl (rowsA none) K), .i .i64 a, .i .i64 b] (rows3 (some 0) (winL a b K)) := by
  obtain ⟨hl1, hl2⟩ := hK
  refine impl_of (fn := Try.f47) tbl_ok (by kernel_rfl) (by kernel_rfl) rfl ⟨by simp [Try.f47], by decide⟩ rfl fun W0 => ?_
  repeat' first
    | apply WP.seq
    | (apply WP.region (E := eWindow) mixed tbl_ok; conv => whnf)
    | apply WP.block
    | (apply reg_and; (· kernel_rfl); conv => whnf)
    | (apply ex_glen; conv => whnf)
    | fail
  refine WP.loopM [7, 9, 10, 12, 15, 16, 22, 23, 24, 25] (fun i : Nat => [(7, rows3 (some 0) (winL a b (K.take i))), (15, .i .i64 i)]) (fun i => i ≤ K.length) (fun i => K.length - i) 0 ?_
  conv => whnf
  refine And.intro (And.intro ?_ ?_) (fun i hi => ?_)
  · first | omega | trivial | skip
  · conv => whnf
    repeat' first
      | apply True.intro
      | (apply ptr_and; (· kernel_rfl); conv => whnf)
      | omega
      | (apply Or.inr; rfl)
      | (apply Or.inl; rfl)
      | (apply or_row; (· rfl); (· rfl); rfl)
      | (apply Or.inr; apply And.intro; (· rfl); rfl)
      | (apply And.intro <;> conv => whnf)
      | fail
  conv => whnf
  by_cases hi2 : i < K.length
  · have ha := gl_at (f := rowsA none) (l := K) (i := i) [] hi2
    obtain ⟨hx1, hx2⟩ := hl2 _ (getD_in (l := K) (i := i) [] hi2)
    have hbx := hb _ (getD_in (l := K) (i := i) [] hi2)
    have hsn : gl (rowsA none) (winL a b (K.take i)) ++ [rowsA none (winR a b (K.getD i []))] = gl (rowsA none) (winL a b (K.take (i + 1))) := map_snoc (g := rowsA none) (f := winR a b) (l := K) (i := i) [] hi2
    have hml : (winL a b (K.take i)).length = i := by unfold winL; rw [List.length_map, List.length_take]; omega
    obtain ⟨x, hx⟩ : ∃ x, x = K.getD i [] := ⟨_, rfl⟩
    rw [← hx] at ha hx1 hx2 hbx hsn
    have hcut : ((gl (rowA none) x).take ((b : Nat) : Int).toNat).drop ((a : Nat) : Int).toNat = gl (rowA none) (winR a b x) := by rw [gl_cut, Int.toNat_natCast, Int.toNat_natCast]; rfl
    have hyl : (winR a b x).length ≤ 1000000 := by unfold winR; rw [List.length_drop, List.length_take]; omega
    have hy2 : ∀ y ∈ winR a b x, y.length ≤ 1000000 := fun y hy => hx2 y (List.mem_of_mem_take (List.mem_of_mem_drop hy))
    generalize winL a b (K.take i) = KI at *
    generalize winR a b x = yy at *
    repeat' first
      | (rw [fz_rows]; conv => whnf)
      | apply WP.seq
      | (apply WP.region (E := eWindow) mixed tbl_ok; conv => whnf)
      | (apply WP.cond; conv => whnf)
      | (apply WP.skip; conv => whnf)
      | apply WP.block
      | (apply ex_at ha; conv => whnf)
      | (rw [hcut]; conv => whnf)
      | (apply reg_and; (· kernel_rfl); conv => whnf)
      | (apply ex_glen; conv => whnf)
      | (apply ex_eq; conv => whnf)
      | (apply nd_gl; (· omega); conv => whnf)
      | (apply And.intro; (· first | with_reducible rfl | exact trivial | exact Or.inl ⟨rfl, rfl⟩ | exact Or.inr rfl | decide | omega | (apply Nat.le_of_ble_eq_true; rfl) | (dsimp only; omega) | (simp only [ints_len, gl_len, mp_len, List.length_cons, List.length_nil, List.length_drop, List.length_take]; omega)); conv => whnf)
      | (apply br_yes; (· omega); conv => whnf)
      | fail
    refine WP.loopM [10, 12, 24, 25] (fun j : Nat => [(10, .sl (some 0) none 1 true (gl (rowA none) (yy.take j))), (24, .i .i64 j)]) (fun j => j ≤ yy.length) (fun j => yy.length - j) 0 ?_
    conv => whnf
    refine And.intro (And.intro ?_ ?_) (fun j hj => ?_)
    · first | omega | trivial | skip
    · conv => whnf
      repeat' first
        | apply True.intro
        | (apply ptr_and; (· kernel_rfl); conv => whnf)
        | omega
        | (apply Or.inr; rfl)
        | (apply Or.inl; rfl)
        | (apply or_row; (· rfl); (· rfl); rfl)
        | (apply Or.inr; apply And.intro; (· rfl); rfl)
        | (apply And.intro <;> conv => whnf)
        | fail
    conv => whnf
    by_cases hj2 : j < yy.length
    · have hu := gl_at (f := rowA none) (l := yy) (i := j) [] hj2
      have hz := hy2 _ (getD_in (l := yy) (i := j) [] hj2)
      have hts : gl (rowA none) (yy.take j) ++ [rowA none (yy.getD j [])] = gl (rowA none) (yy.take (j + 1)) := by
        rw [take_snoc [] hj2]; simp [gl]
      have hxl : (yy.take j).length = j := by rw [List.length_take]; omega
      obtain ⟨z, hzz⟩ : ∃ z, z = yy.getD j [] := ⟨_, rfl⟩
      rw [← hzz] at hu hz hts
      repeat' first
        | apply WP.seq
        | (apply WP.region (E := eWindow) mixed tbl_ok; conv => whnf)
        | (apply WP.cond; conv => whnf)
        | (apply WP.skip; conv => whnf)
        | apply WP.block
        | (apply ex_at hu; conv => whnf)
        | (apply reg_and; (· kernel_rfl); conv => whnf)
        | (apply ex_and; (· with_reducible exact clone2_ok hz); conv => whnf)
        | (apply ex_i64; (· omega); conv => whnf)
        | (apply ex_eq; conv => whnf)
        | (apply nd_gl; (· omega); conv => whnf)
        | (apply And.intro; (· first | with_reducible rfl | exact trivial | exact Or.inl ⟨rfl, rfl⟩ | exact Or.inr rfl | decide | omega | (apply Nat.le_of_ble_eq_true; rfl) | (dsimp only; omega) | (simp only [ints_len, gl_len, mp_len, List.length_cons, List.length_nil, List.length_drop, List.length_take]; omega)); conv => whnf)
        | (apply br_yes; (· omega); conv => whnf)
        | fail
      refine Exists.intro (j + 1) (And.intro (And.intro (by omega) (by omega)) ?_)
      conv => whnf
      repeat' first
        | apply True.intro
        | (apply ptr_and; (· kernel_rfl); conv => whnf)
        | omega
        | (apply Or.inr; rfl)
        | (apply Or.inl; rfl)
        | (apply or_row; (· rfl); (· rfl); rfl)
        | (apply And.intro <;> conv => whnf)
        | (apply or_row; (· rfl); (· rfl); exact hts)
        | fail
    · have e : j = yy.length := by omega
      subst e
      rw [List.take_length]
      repeat' first
        | (rw [fz_rows]; conv => whnf)
        | apply WP.seq
        | (apply WP.region (E := eWindow) mixed tbl_ok; conv => whnf)
        | (apply WP.cond; conv => whnf)
        | (apply WP.exit; conv => whnf)
        | (apply reg_and; (· kernel_rfl); conv => whnf)
        | (apply ex_i64; (· omega); conv => whnf)
        | (apply ex_eq; conv => whnf)
        | (apply And.intro; (· first | with_reducible rfl | exact trivial | exact Or.inl ⟨rfl, rfl⟩ | exact Or.inr rfl | decide | omega | (apply Nat.le_of_ble_eq_true; rfl) | (dsimp only; omega) | (simp only [ints_len, gl_len, mp_len, List.length_cons, List.length_nil, List.length_drop, List.length_take]; omega)); conv => whnf)
        | (apply br_no; (· omega); conv => whnf)
        | fail
      refine Exists.intro (i + 1) (And.intro (And.intro (by omega) (by omega)) ?_)
      conv => whnf
      repeat' first
        | apply True.intro
        | (apply ptr_and; (· kernel_rfl); conv => whnf)
        | omega
        | (apply Or.inr; rfl)
        | (apply Or.inl; rfl)
        | (apply or_row; (· rfl); (· rfl); rfl)
        | (apply And.intro <;> conv => whnf)
        | (apply or_row; (· rfl); (· rfl); exact hsn)
        | fail
  · have e : i = K.length := by omega
    subst e
    rw [List.take_length]
    repeat' first
      | apply WP.seq
      | (apply WP.region (E := eWindow) mixed tbl_ok; conv => whnf)
      | (apply WP.cond; conv => whnf)
      | (apply WP.ret; conv => whnf)
      | (apply WP.exit; conv => whnf)
      | (apply reg_and; (· kernel_rfl); conv => whnf)
      | (apply ex_eq; conv => whnf)
      | (apply And.intro; (· first | with_reducible rfl | exact trivial | exact Or.inl ⟨rfl, rfl⟩ | exact Or.inr rfl | decide | omega | (apply Nat.le_of_ble_eq_true; rfl) | (dsimp only; omega) | (simp only [ints_len, gl_len, mp_len, List.length_cons, List.length_nil, List.length_drop, List.length_take]; omega)); conv => whnf)
      | (apply br_no; (· omega); conv => whnf)
      | (apply or_row; (· rfl); (· rfl); with_reducible rfl)
      | fail
    skip
def cutL20 (K : List (List (List Int))) : List (List (List Int)) := (K.take 5).map (cutR 20)
def eLists11 : Env := ⟨tbl, [], [23], [], [(0, [0]), (1, [0, 3]), (2, [0, 3, 4]), (3, [0, 3, 4, 13]), (4, [0, 3, 4]), (5, [0, 3, 4]), (6, [2])]⟩
theorem lists11_ok {nl : Option Bool} {l : List (List (List Int))} (hl : SizM l) : Impl Try.prog 44 [.sl none nl 1 true (gl (rowsA none) l)] (rows3 (some 0) (cutL20 l)) := by
  obtain ⟨hl1, hl2⟩ := hl
  refine impl_of (fn := Try.f44) tbl_ok (by kernel_rfl) (by kernel_rfl) rfl ⟨by simp [Try.f44], by decide⟩ rfl fun W0 => ?_
  repeat' first
    | apply WP.seq
    | (apply WP.region (E := eLists11) mixed tbl_ok; conv => whnf)
    | apply WP.block
    | (apply reg_and; (· kernel_rfl); conv => whnf)
    | fail
  refine WP.loopM [3, 4, 13] (fun i : Nat => [(3, rows3 (some 0) ((l.take i).map (cutR 20))), (4, .i .i64 i)]) (fun i => i ≤ l.length ∧ i ≤ 5) (fun i => 5 - i) 0 ?_
  conv => whnf
  refine And.intro (And.intro ?_ ?_) (fun i hi => ?_)
  · first | omega | trivial | skip
  · conv => whnf
    repeat' first
      | apply True.intro
      | (apply ptr_and; (· kernel_rfl); conv => whnf)
      | omega
      | (apply Or.inr; rfl)
      | (apply Or.inl; rfl)
      | (apply or_row; (· rfl); (· rfl); rfl)
      | (apply And.intro <;> conv => whnf)
      | fail
  conv => whnf
  obtain ⟨hi1, hi2⟩ := hi
  have ha := fun h => gl_at (f := rowsA none) (l := l) (i := i) [] h
  have hf : i < l.length → ∀ {no : Option Bool}, Impl Try.prog 75 [.sl none no 1 true (gl (rowA none) (l.getD i [])), .i .i64 20] (.sl (some 0) none 1 true (gl (rowA none) (cutR 20 (l.getD i [])))) := fun h {no} => rows5_ok 20 (hl2 _ (getD_in [] h)).1 (hl2 _ (getD_in [] h)).2 (by omega)
  have hsn := fun h => map_snoc (g := rowsA none) (f := cutR 20) (l := l) (i := i) [] h
  have hml : ((l.take i).map (cutR 20)).length = i := by rw [List.length_map, List.length_take]; omega
  repeat' first
    | (rw [fz_rows]; conv => whnf)
    | apply WP.seq
    | (apply WP.region (E := eLists11) mixed tbl_ok; conv => whnf)
    | (apply WP.cond; conv => whnf)
    | (apply WP.skip; conv => whnf)
    | (apply WP.ret; conv => whnf)
    | (apply WP.exit; conv => whnf)
    | apply WP.block
    | (apply ex_at (ha (by omega)); conv => whnf)
    | (apply reg_and; (· kernel_rfl); conv => whnf)
    | (apply ex_and; (· with_reducible exact hf (by omega)); conv => whnf)
    | (apply ex_glen; conv => whnf)
    | (apply ex_i64; (· omega); conv => whnf)
    | (apply ex_eq; conv => whnf)
    | ((with_reducible apply gd_t); conv => whnf)
    | ((with_reducible apply gd_f); conv => whnf)
    | (apply gd_br)
    | (apply nd_gl; (· omega); conv => whnf)
    | (apply And.intro; (· first | with_reducible rfl | exact trivial | exact Or.inl ⟨rfl, rfl⟩ | exact Or.inr rfl | decide | omega | (apply Nat.le_of_ble_eq_true; rfl) | (dsimp only; omega) | (simp only [ints_len, gl_len, mp_len, List.length_cons, List.length_nil, List.length_drop, List.length_take]; omega)); conv => whnf)
    | (apply br_f; conv => whnf)
    | (apply br_dec <;> intro hbr <;> (first | rw [decide_eq_true hbr] | rw [decide_eq_false hbr] | skip) <;> conv => whnf)
    | fail
  · refine Exists.intro (i + 1) (And.intro (And.intro ⟨by omega, by omega⟩ (by omega)) ?_)
    conv => whnf
    repeat' first
      | apply True.intro
      | (apply ptr_and; (· kernel_rfl); conv => whnf)
      | omega
      | (apply Or.inr; rfl)
      | (apply Or.inl; rfl)
      | (apply or_row; (· rfl); (· rfl); rfl)
      | (apply And.intro <;> conv => whnf)
      | (apply or_row; (· rfl); (· rfl); exact hsn (by omega))
      | fail
  all_goals have e : (l.take i).map (cutR 20) = cutL20 l := by unfold cutL20; rw [take_cap (i := i) (n := 5) (by omega)]
  all_goals rw [e]
  · repeat' first
      | (apply or_row; (· rfl); (· rfl); rfl)
      | fail
  · repeat' first
      | (apply or_row; (· rfl); (· rfl); rfl)
      | fail
end Go.Proofs.Ytjihjjbieeofdaa.T
namespace Go.Proofs.Ytjihjjbieeofdaa.T
set_option linter.unusedSimpArgs false
set_option linter.unusedVariables false
open Go
set_option linter.unusedVariables false
set_option maxHeartbeats 8000000
set_option maxRecDepth 100000
abbrev bkO (o : Option Nat) (t : List Int) (f : Int) (k v : List (List (List Int))) : AV := .agg [.sl o none 1 false (ints .i64 t), .i .i64 f, rows3 o k, rows3 o v]
abbrev blkF (b : Bk) : AV := .agg [.sl none none 1 false (ints .i64 b.t), .i .i64 b.f, .sl none none 1 true (gl (rowsA none) b.k), .sl none none 1 true (gl (rowsA none) b.v)]
def cutP (b : Bk) : Bk := ⟨b.t.take 140, b.f, cutL20 b.k, cutL20 b.v⟩
def eTold11 : Env := ⟨tbl, [], [], [], [(0, [1, 2, 2999, 2000, 2001, 2002, 2003, 3999, 3000, 3001, 3002, 3003]), (1, [2, 3999, 3000, 3001, 3002, 3003])]⟩
theorem told11_ok {n1 n2 n3 : Option Bool} {t : List Int} (f : Int) {K W : List (List (List Int))} (ht : t.length ≤ 140737488351232) (hK : SizM K) (hW : SizM W) : Impl Try.prog 43 [bkA t f K W n1 n2 n3] (bkO (some 0) (t.take 140) f (cutL20 K) (cutL20 W)) := by
  have hf : ∀ {no : Option Bool}, Impl Try.prog 20 [.sl none no 1 false (ints .i64 t), .i .i64 140] (.sl (some 0) none 1 false (ints .i64 (t.take 140))) := fun {no} => few8_ok 140 ht (by omega)
  generalize t.take 140 = t1 at *
  have h1 := fun {nl : Option Bool} => lists11_ok (nl := nl) hK
  have h2 := fun {nl : Option Bool} => lists11_ok (nl := nl) hW
  generalize cutL20 K = K1 at *
  generalize cutL20 W = W1 at *
  refine impl_of (fn := Try.f43) tbl_ok (by kernel_rfl) (by kernel_rfl) rfl ⟨by simp [Try.f43], by decide⟩ rfl fun W0 => ?_
  repeat' first
    | (rw [fz_rows3]; conv => whnf)
    | apply WP.seq
    | (apply WP.region (E := eTold11) mixed tbl_ok; conv => whnf)
    | (apply WP.ret; conv => whnf)
    | (apply reg_and; (· kernel_rfl); conv => whnf)
    | (apply ex_and; (· with_reducible exact hf); conv => whnf)
    | (apply ex_and; (· with_reducible exact h1); conv => whnf)
    | (apply ex_and; (· with_reducible exact h2); conv => whnf)
    | (apply And.intro; (· first | with_reducible rfl | exact trivial | exact Or.inl ⟨rfl, rfl⟩ | exact Or.inr rfl | decide | omega | (apply Nat.le_of_ble_eq_true; rfl) | (dsimp only; omega) | (simp only [ints_len, gl_len, mp_len, List.length_cons, List.length_nil, List.length_drop, List.length_take]; omega)); conv => whnf)
    | fail
  repeat' first
    | apply True.intro
    | (apply Or.inr; rfl)
    | (apply or_row; (· rfl); (· rfl); rfl)
    | (apply And.intro <;> conv => whnf)
    | fail
def eOf11 : Env := ⟨tbl, [], [], [], [(0, [1, 2, 2999, 2000, 2001, 2002, 2003, 3999, 3000, 3001, 3002, 3003]), (1, [2, 3999, 3000, 3001, 3002, 3003])]⟩
theorem of11_ok {n1 n2 n3 : Option Bool} {t : List Int} (f : Int) {K W : List (List (List Int))} (ht : t.length ≤ 140737488351232) (hK : SizM K) (hW : SizM W) : Impl Try.prog 12 [bkA t f K W n1 n2 n3] (bkO (some 0) (t.take 140) f (cutL20 K) (cutL20 W)) := by
  have hf : ∀ {no : Option Bool}, Impl Try.prog 20 [.sl none no 1 false (ints .i64 t), .i .i64 140] (.sl (some 0) none 1 false (ints .i64 (t.take 140))) := fun {no} => few8_ok 140 ht (by omega)
  generalize t.take 140 = t1 at *
  have h1 := fun {nl : Option Bool} => lists11_ok (nl := nl) hK
  have h2 := fun {nl : Option Bool} => lists11_ok (nl := nl) hW
  generalize cutL20 K = K1 at *
  generalize cutL20 W = W1 at *
  refine impl_of (fn := Try.f12) tbl_ok (by kernel_rfl) (by kernel_rfl) rfl ⟨by simp [Try.f12], by decide⟩ rfl fun W0 => ?_
  repeat' first
    | (rw [fz_rows3]; conv => whnf)
    | apply WP.seq
    | (apply WP.region (E := eOf11) mixed tbl_ok; conv => whnf)
    | (apply WP.ret; conv => whnf)
    | (apply reg_and; (· kernel_rfl); conv => whnf)
    | (apply ex_and; (· with_reducible exact hf); conv => whnf)
    | (apply ex_and; (· with_reducible exact h1); conv => whnf)
    | (apply ex_and; (· with_reducible exact h2); conv => whnf)
    | (apply And.intro; (· first | with_reducible rfl | exact trivial | exact Or.inl ⟨rfl, rfl⟩ | exact Or.inr rfl | decide | omega | (apply Nat.le_of_ble_eq_true; rfl) | (dsimp only; omega) | (simp only [ints_len, gl_len, mp_len, List.length_cons, List.length_nil, List.length_drop, List.length_take]; omega)); conv => whnf)
    | fail
  repeat' first
    | apply True.intro
    | (apply Or.inr; rfl)
    | (apply or_row; (· rfl); (· rfl); rfl)
    | (apply And.intro <;> conv => whnf)
    | fail
structure BkW (b : Bk) : Prop where
  t : IntsW b.t
  f : IntKind.i64.min ≤ b.f ∧ b.f ≤ IntKind.i64.max
  k : SizM b.k
  v : SizM b.v
abbrev bkN : Bk := ⟨[], 0, [], []⟩
def eRow11 : Env := ⟨tbl, [], [26], [], [(0, [0, 1]), (1, [0, 1, 5]), (2, [0, 1, 5, 6]), (3, [0, 1, 5, 6, 16]), (4, [0, 1, 5, 6]), (5, [0, 1, 5, 6]), (6, [4])]⟩
theorem row11_ok {nl : Option Bool} {l : List Bk} (hl : l.length ≤ 140737488351232) (hb : ∀ b ∈ l, BkW b) : Impl Try.prog 11 [.sl none nl 4 true (gl blkF l), .i .i64 10] (.sl (some 0) none 4 true (gl blkF ((l.take 10).map cutP))) := by
  refine impl_of (fn := Try.f11) tbl_ok (by kernel_rfl) (by kernel_rfl) rfl ⟨by simp [Try.f11], by decide⟩ rfl fun W0 => ?_
  repeat' first
    | apply WP.seq
    | (apply WP.region (E := eRow11) mixed tbl_ok; conv => whnf)
    | apply WP.block
    | (apply reg_and; (· kernel_rfl); conv => whnf)
    | fail
  refine WP.loopM [5, 6, 16] (fun i : Nat => [(5, .sl (some 0) none 4 true (gl blkF ((l.take i).map cutP))), (6, .i .i64 i)]) (fun i => i ≤ l.length ∧ i ≤ 10) (fun i => 10 - i) 0 ?_
  conv => whnf
  refine And.intro (And.intro ?_ ?_) (fun i hi => ?_)
  · first | omega | trivial | skip
  · conv => whnf
    repeat' first
      | apply True.intro
      | (apply ptr_and; (· kernel_rfl); conv => whnf)
      | omega
      | (apply Or.inr; rfl)
      | (apply Or.inl; rfl)
      | (apply or_row; (· rfl); (· rfl); rfl)
      | (apply And.intro <;> conv => whnf)
      | fail
  conv => whnf
  obtain ⟨hi1, hi2⟩ := hi
  by_cases hit : i < l.length ∧ i < 10
  · have ha := gl_at (f := blkF) (l := l) (i := i) bkN hit.1
    have hw := hb _ (getD_in (l := l) (i := i) bkN hit.1)
    have hsn := map_snoc (g := blkF) (f := cutP) (l := l) (i := i) bkN hit.1
    have hml : ((l.take i).map cutP).length = i := by rw [List.length_map, List.length_take]; omega
    obtain ⟨x, hx⟩ : ∃ x, x = l.getD i bkN := ⟨_, rfl⟩
    rw [← hx] at ha hw hsn
    have hT := fun {n1 n2 n3 : Option Bool} => told11_ok (n1 := n1) (n2 := n2) (n3 := n3) x.f hw.t.1 hw.k hw.v
    generalize (l.take i).map cutP = l1 at *
    repeat' first
      | (rw [fz_rows3]; conv => whnf)
      | apply WP.seq
      | (apply WP.region (E := eRow11) mixed tbl_ok; conv => whnf)
      | (apply WP.cond; conv => whnf)
      | (apply WP.skip; conv => whnf)
      | apply WP.block
      | (apply ex_at ha; conv => whnf)
      | (apply reg_and; (· kernel_rfl); conv => whnf)
      | (apply ex_and; (· with_reducible exact hT); conv => whnf)
      | (apply ex_glen; conv => whnf)
      | (apply ex_i64; (· omega); conv => whnf)
      | (apply ex_eq; conv => whnf)
      | (apply gd_br)
      | (apply nd_gl; (· omega); conv => whnf)
      | (apply And.intro; (· first | with_reducible rfl | exact trivial | exact Or.inl ⟨rfl, rfl⟩ | exact Or.inr rfl | decide | omega | (apply Nat.le_of_ble_eq_true; rfl) | (dsimp only; omega) | (simp only [ints_len, gl_len, mp_len, List.length_cons, List.length_nil, List.length_drop, List.length_take]; omega)); conv => whnf)
      | (apply br_yes; (· omega); conv => whnf)
      | fail
    refine Exists.intro (i + 1) (And.intro (And.intro ⟨by omega, by omega⟩ (by omega)) ?_)
    conv => whnf
    repeat' first
      | apply True.intro
      | (apply ptr_and; (· kernel_rfl); conv => whnf)
      | omega
      | (apply Or.inr; rfl)
      | (apply Or.inl; rfl)
      | (apply or_row; (· rfl); (· rfl); rfl)
      | (apply And.intro <;> conv => whnf)
      | (apply or_row; (· rfl); (· rfl); exact hsn)
      | fail
  · have e : (l.take i).map cutP = (l.take 10).map cutP := by rw [take_cap (i := i) (n := 10) (by omega)]
    rw [e]
    repeat' first
      | apply WP.seq
      | (apply WP.region (E := eRow11) mixed tbl_ok; conv => whnf)
      | (apply WP.cond; conv => whnf)
      | (apply WP.ret; conv => whnf)
      | (apply WP.exit; conv => whnf)
      | (apply reg_and; (· kernel_rfl); conv => whnf)
      | (apply ex_glen; conv => whnf)
      | (apply ex_eq; conv => whnf)
      | ((with_reducible apply gd_t); conv => whnf)
      | ((with_reducible apply gd_f); conv => whnf)
      | (apply gd_br)
      | (apply And.intro; (· first | with_reducible rfl | exact trivial | exact Or.inl ⟨rfl, rfl⟩ | exact Or.inr rfl | decide | omega | (apply Nat.le_of_ble_eq_true; rfl) | (dsimp only; omega) | (simp only [ints_len, gl_len, mp_len, List.length_cons, List.length_nil, List.length_drop, List.length_take]; omega)); conv => whnf)
      | (apply br_f; conv => whnf)
      | (apply br_no; (· omega); conv => whnf)
      | (apply br_dec <;> intro hbr <;> (first | rw [decide_eq_true hbr] | rw [decide_eq_false hbr] | skip) <;> conv => whnf)
      | (apply or_row; (· rfl); (· rfl); with_reducible rfl)
      | fail
    all_goals
      skip
end Go.Proofs.Ytjihjjbieeofdaa.T
namespace Go.Proofs.Ytjihjjbieeofdaa.T
set_option linter.unusedSimpArgs false
set_option linter.unusedVariables false
open Go
set_option linter.unusedVariables false
set_option maxHeartbeats 8000000
set_option maxRecDepth 100000
theorem rw_nn {w : World} {F : Nat → Prop} {s sz : Nat} {dp : Bool} {l : List AV} {v : Value} {ts : List Nat} (h0 : l ≠ []) (h : RW w F (.sl (some s) none sz dp l) v ts) : RW w F (.sl (some s) (some false) sz dp l) v ts := by
  have h1 : Rp w F (.sl (some s) none sz dp l) [v] ts := h
  cases h1 with
  | own0 hn => exact absurd rfl h0
  | own1 hn => exact absurd rfl h0
  | own hn hh hc hm hs hl hr hw hd => exact show Rp _ _ _ _ _ from Rp.own (nil := some false) (by simp) hh hc hm hs hl hr hw hd
theorem impl_nn {P : Program} {f : Nat} {ars : List AV} {s sz : Nat} {dp : Bool} {l : List AV} (hh : headOk ars = true) (hn : ∀ e, ars[0]? = some e → ∀ l, e ≠ .tup l) (h0 : l ≠ []) (h : Impl P f ars (.sl (some s) none sz dp l)) : Impl P f ars (.sl (some s) (some false) sz dp l) := by
  have hi := h.f hn
  refine headOk_impl hh ⟨hi.fn, fun F w vs hs hv hF => (hi.calls F w vs hs hv hF).mono fun e w' hx => ?_⟩
  obtain ⟨v, S, ts, h1, h2, h3, h4⟩ := hx
  exact ⟨v, S, ts, h1, h2, rw_nn h0 h3, h4⟩
theorem clone1_nn {nl : Option Bool} {l : List Int} (hl : l.length ≤ 1000000) (h0 : 0 < l.length) : Impl Try.prog 48 [.sl none nl 1 false (ints .i64 l)] (.sl (some 0) (some false) 1 false (ints .i64 l)) :=
  impl_nn rfl (fun e he l => by cases he; intro e'; cases e') (fun e => by have h2 := congrArg List.length e; rw [ints_len] at h2; have h3 : l.length = 0 := h2; omega) (clone1_ok hl)
abbrev LL : Type := List (List (List Int))
def addK (K k : LL) : LL := mp k.length fun i => K.getD i [] ++ k.getD i []
/-- Pages put together, one behind the other. -/
def jn (c : Cfg) : List Bk → List Int → LL → LL → List Int × LL × LL × Int
  | [], t, K, V => (t, K, V, 0)
  | b :: l, t, K, V => if chkB c b.t b.f b.k b.v = 0 then (if b.f = t.length ∧ b.t.take t.length = t then jn c l b.t (addK K b.k) (addK V b.v) else ([], [], [], 8)) else ([], [], [], chkB c b.t b.f b.k b.v)
def stp (L p : Nat) (F G : Nat → List (List Int)) : LL := mp L fun l => if l < p then F l else G l
theorem stp_len (L p : Nat) (F G : Nat → List (List Int)) : (stp L p F G).length = L := mp_len _ _
theorem stp_set {L p : Nat} {F G : Nat → List (List Int)} (h : p < L) : (stp L p F G).set ((p : Nat) : Int).toNat (F p) = stp L (p + 1) F G := by
  rw [Int.toNat_natCast]
  unfold stp
  refine mp_set fun j hj => ?_
  by_cases e : j = p
  · subst e; rw [if_pos (by omega), if_pos rfl]
  · rw [if_neg e]
    by_cases h : j < p
    · rw [if_pos h, if_pos (by omega)]
    · rw [if_neg h, if_neg (by omega)]
theorem stp_at {L p : Nat} {F G : Nat → List (List Int)} (f : List (List Int) → AV) (h : p < L) : (gl f (stp L p F G))[((p : Nat) : Int).toNat]? = some (f (G p)) := by
  rw [Int.toNat_natCast]; unfold gl stp mp; rw [List.getElem?_map, List.getElem?_map, List.getElem?_range h]; simp
theorem mp_getD {α : Type} (l : List α) (d : α) : mp l.length (fun j => l.getD j d) = l := by
  refine List.ext_getElem (mp_len _ _) fun j h1 h2 => ?_
  rw [mp_at, List.getD_eq_getElem?_getD, List.getElem?_eq_getElem h2]; rfl
theorem chkB_zero {c : Cfg} {t : List Int} {f : Int} {k v : LL} (h : chkB c t f k v = 0) : frm c t f k v ∧ shB (t.length - f) c.dim k ∧ shB (t.length - f) c.dim v := by
  unfold chkB at h
  split at h
  · split at h
    · split at h
      · exact ⟨by assumption, by assumption⟩
      · cases h
    · cases h
  · cases h
theorem winL_all {n : Nat} {k : LL} (h : ∀ r ∈ k, r.length = n) : winL 0 n k = k := by
  unfold winL
  refine (List.map_congr_left fun r hr => ?_).trans (List.map_id k)
  unfold winR
  rw [List.take_of_length_le (by rw [h r hr]; exact Nat.le_refl _)]; rfl
structure JS where
  i : Nat
  t : List Int
  k : LL
  v : LL
structure JOk (c : Cfg) (l : List Bk) (x : JS) : Prop where
  le : x.i ≤ l.length
  jn : jn c (l.drop x.i) x.t x.k x.v = jn c l [] [] []
  zero : x.i = 0 → x.t = [] ∧ x.k = [] ∧ x.v = []
  more : 0 < x.i → 0 < x.t.length ∧ (x.k.length : Int) = c.layers ∧ (x.v.length : Int) = c.layers
  len : x.t.length ≤ 128
  rk : ∀ r ∈ x.k, r.length = x.t.length
  rv : ∀ r ∈ x.v, r.length = x.t.length
/-- Small pages. -/
structure BkS (b : Bk) : Prop where
  t : b.t.length ≤ 1000000
  f : IntKind.i64.min ≤ b.f ∧ b.f ≤ IntKind.i64.max
  k : Siz3 b.k
  v : Siz3 b.v
theorem addK_rows {K k : LL} {m n : Nat} (hK : ∀ r ∈ K, r.length = m) (hk : ∀ r ∈ k, r.length = n) (hl : K.length = k.length ∨ (K = [] ∧ m = 0)) : ∀ r ∈ addK K k, r.length = m + n := fun r hr => by
  unfold addK at hr
  obtain ⟨j, hj, rfl⟩ := List.mem_map.1 hr
  rw [List.mem_range] at hj
  rw [List.length_append, hk _ (getD_in [] hj)]
  rcases hl with hl | ⟨rfl, rfl⟩
  · rw [hK _ (getD_in [] (by omega))]
  · rfl
def eJoin : Env := ⟨tbl, [], [], [79, 83], [(0, [1, 2, 4, 3999, 3000, 3001, 3002, 3003, 3004, 5999, 5000, 5001, 5002]), (1, [1, 2, 4, 6, 3999, 3000, 3001, 3002, 3003, 3004, 5999, 5000, 5001, 5002, 7999, 7000, 7001, 7002]), (2, [2, 4, 6, 14, 15, 16, 3999, 3000, 3001, 3002, 3003, 3004, 5999, 5000, 5001, 5002, 7999, 7000, 7001, 7002]), (3, [2, 4, 6, 14, 15, 16, 17, 3999, 3000, 3001, 3002, 3003, 3004, 5999, 5000, 5001, 5002, 7999, 7000, 7001, 7002]), (4, [2, 4, 6, 8, 14, 15, 16, 3999, 3000, 3001, 3002, 3003, 3004, 5999, 5000, 5001, 5002, 7999, 7000, 7001, 7002, 9999, 9000, 9001, 9002, 9003]), (5, [2, 4, 6, 8, 9, 14, 15, 16, 3999, 3000, 3001, 3002, 3003, 3004, 5999, 5000, 5001, 5002, 7999, 7000, 7001, 7002, 9999, 9000, 9001, 9002, 9003]), (6, [2, 4, 6, 8, 9, 14, 15, 16, 24, 3999, 3000, 3001, 3002, 3003, 3004, 5999, 5000, 5001, 5002, 7999, 7000, 7001, 7002, 9999, 9000, 9001, 9002, 9003]), (7, [4, 5, 5999, 5000, 5001, 5002]), (8, [2, 4, 6, 8, 14, 15, 16, 43, 3999, 3000, 3001, 3002, 3003, 3004, 5999, 5000, 5001, 5002, 7999, 7000, 7001, 7002, 9999, 9000, 9001, 9002, 9003]), (9, [4, 5, 5999, 5000, 5001, 5002]), (10, [2, 4, 6, 8, 14, 15, 16, 47, 3999, 3000, 3001, 3002, 3003, 3004, 5999, 5000, 5001, 5002, 7999, 7000, 7001, 7002, 9999, 9000, 9001, 9002, 9003]), (11, [2, 4, 6, 8, 14, 15, 16, 3999, 3000, 3001, 3002, 3003, 3004, 5999, 5000, 5001, 5002, 7999, 7000, 7001, 7002, 9999, 9000, 9001, 9002, 9003]), (12, [2, 4, 6, 8, 10, 14, 15, 16, 3999, 3000, 3001, 3002, 3003, 3004, 5999, 5000, 5001, 5002, 7999, 7000, 7001, 7002, 9999, 9000, 9001, 9002, 9003]), (13, [2, 4, 6, 8, 11, 12, 14, 15, 16, 3999, 3000, 3001, 3002, 3003, 3004, 5999, 5000, 5001, 5002, 7999, 7000, 7001, 7002, 9999, 9000, 9001, 9002, 9003]), (14, [2, 4, 6, 8, 11, 12, 14, 15, 16, 73, 74, 3999, 3000, 3001, 3002, 3003, 3004, 5999, 5000, 5001, 5002, 7999, 7000, 7001, 7002, 9999, 9000, 9001, 9002, 9003]), (15, [2, 4, 6, 8, 11, 12, 14, 15, 16, 73, 74, 75, 3999, 3000, 3001, 3002, 3003, 3004, 5999, 5000, 5001, 5002, 7999, 7000, 7001, 7002, 9999, 9000, 9001, 9002, 9003]), (16, [2, 4, 6, 8, 11, 12, 13, 14, 15, 16, 73, 74, 3999, 3000, 3001, 3002, 3003, 3004, 5999, 5000, 5001, 5002, 7999, 7000, 7001, 7002, 9999, 9000, 9001, 9002, 9003]), (17, [2, 4, 6, 8, 11, 12, 14, 15, 16, 73, 74, 3999, 3000, 3001, 3002, 3003, 3004, 5999, 5000, 5001, 5002, 7999, 7000, 7001, 7002, 9999, 9000, 9001, 9002, 9003]), (18, [2, 4, 6, 8, 11, 12, 14, 15, 16, 73, 74, 3999, 3000, 3001, 3002, 3003, 3004, 5999, 5000, 5001, 5002, 7999, 7000, 7001, 7002, 9999, 9000, 9001, 9002, 9003]), (19, [2, 4, 6, 14, 15, 16, 3999, 3000, 3001, 3002, 3003, 3004, 5999, 5000, 5001, 5002, 7999, 7000, 7001, 7002]), (20, [2, 4, 6, 14, 15, 16, 3999, 3000, 3001, 3002, 3003, 3004, 5999, 5000, 5001, 5002, 7999, 7000, 7001, 7002]), (21, [4, 5, 5999, 5000, 5001, 5002])]⟩
theorem join_ok {nl : Option Bool} {c : Cfg} {l : List Bk} (hl : l.length ≤ 1000000) (hb : ∀ b ∈ l, BkS b) (r : List Int × LL × LL × Int) (hr : r = jn c l [] [] []) : Impl Try.prog 15 [cfgA c, .sl none nl 4 true (gl blkF l)] (.tup [.agg [.sl (some 0) none 1 false (ints .i64 r.1), rows3O r.2.1, rows3O r.2.2.1], .i .i64 r.2.2.2]) := by
  refine impl_of (fn := Try.f15) tbl_ok (by kernel_rfl) (by kernel_rfl) rfl ⟨by simp [Try.f15], by decide⟩ rfl fun W0 => ?_
  repeat' first
    | apply WP.seq
    | (apply WP.region (E := eJoin) mixed tbl_ok; conv => whnf)
    | apply WP.block
    | (apply reg_and; (· kernel_rfl); conv => whnf)
    | (apply ex_glen; conv => whnf)
    | fail
  refine WP.loopM [8, 9, 10, 11, 12, 13, 16, 17, 24, 43, 47, 73, 74, 75, 7000, 7001, 7002, 9999, 9000, 9001, 9002, 9003] (fun x : JS => [(16, .i .i64 x.i), (7000, .sl (some 0) (some (decide (x.i = 0))) 1 false (ints .i64 x.t)), (7001, rows3O x.k), (7002, rows3O x.v)]) (fun x => JOk c l x) (fun x => l.length - x.i) ⟨0, [], [], []⟩ ?_
  conv => whnf
  refine And.intro (And.intro ?_ ?_) (fun x hx => ?_)
  · exact ⟨Nat.zero_le _, rfl, fun _ => ⟨rfl, rfl, rfl⟩, fun h => absurd h (by show ¬ 0 < 0; omega), by show 0 ≤ 128; omega, fun r hr => (by cases hr), fun r hr => (by cases hr)⟩
  · conv => whnf
    repeat' first
      | apply True.intro
      | (apply ptr_and; (· kernel_rfl); conv => whnf)
      | omega
      | (apply Or.inr; rfl)
      | (apply Or.inl; rfl)
      | (apply or_row; (· rfl); (· rfl); rfl)
      | (apply And.intro <;> conv => whnf)
      | rfl
      | fail
  conv => whnf
  obtain ⟨i, t, K, V⟩ := x
  obtain ⟨h1, h2, h3, h4, h5, h6, h7⟩ := hx
  dsimp only at h1 h2 h3 h4 h5 h6 h7 ⊢
  by_cases hil : i < l.length
  · have ha := gl_at (f := blkF) (l := l) (i := i) bkN hil
    have hs := hb _ (getD_in (l := l) (i := i) bkN hil)
    have hd : l.drop i = l.getD i bkN :: l.drop (i + 1) := by
      rw [List.getD_eq_getElem?_getD, List.getElem?_eq_getElem hil, List.drop_eq_getElem_cons hil]; rfl
    obtain ⟨b, hbb⟩ : ∃ b, b = l.getD i bkN := ⟨_, rfl⟩
    rw [← hbb] at ha hs hd
    rw [hd] at h2
    obtain ⟨s1, s2, s3, s4⟩ := hs
    have hC := fun {n1 n2 n3 : Option Bool} => bcheck_ok (n1 := n1) (n2 := n2) (n3 := n3) c s1 s2 s3 s4
    by_cases hz : chkB c b.t b.f b.k b.v = 0
    · rw [hz] at hC
      obtain ⟨⟨f1, f2, f3, f4, f5, f6⟩, g1, g2⟩ := chkB_zero hz
      have hE := fun {n1 n2 : Option Bool} => equal_ok (n1 := n1) (n2 := n2) (a := b.t.take b.f.toNat) (b := t) (by rw [List.length_take]; omega)
      have hcut : (b.t.take b.f.toNat).drop (Int.toNat 0) = b.t.take b.f.toNat := rfl
      by_cases hm : b.f = t.length ∧ b.t.take t.length = t
      · obtain ⟨m1, m2⟩ := hm
        obtain ⟨L, hL⟩ : ∃ L : Nat, c.layers = L := ⟨b.k.length, f5.symm⟩
        have hkL : b.k.length = L := by omega
        have hvL : b.v.length = L := by omega
        obtain ⟨n, hn⟩ : ∃ n : Nat, (b.t.length : Int) - b.f = n := ⟨((b.t.length : Int) - b.f).toNat, by omega⟩
        rw [hn] at g1 g2
        have k1 : ∀ r ∈ b.k, r.length = n := fun r hr => by have := (g1 r hr).1; omega
        have v1 : ∀ r ∈ b.v, r.length = n := fun r hr => by have := (g2 r hr).1; omega
        have hWk : ∀ {nl : Option Bool}, Impl Try.prog 47 [.sl none nl 1 true (gl (rowsA none) b.k), .i .i64 0, .i .i64 (b.t.length - b.f)] (rows3 (some 0) b.k) := fun {nl} => by
          have := window_ok (nl := nl) 0 n s3 (Nat.zero_le _) (fun r hr => by rw [k1 r hr]; exact Nat.le_refl _) (by omega)
          rw [winL_all k1] at this
          rw [hn]; exact this
        have hWv : ∀ {nl : Option Bool}, Impl Try.prog 47 [.sl none nl 1 true (gl (rowsA none) b.v), .i .i64 0, .i .i64 (b.t.length - b.f)] (rows3 (some 0) b.v) := fun {nl} => by
          have := window_ok (nl := nl) 0 n s4 (Nat.zero_le _) (fun r hr => by rw [v1 r hr]; exact Nat.le_refl _) (by omega)
          rw [winL_all v1] at this
          rw [hn]; exact this
        have hE2 : ∀ {n1 n2 : Option Bool}, Impl Try.prog 46 [.sl none n1 1 false (ints .i64 (b.t.take b.f.toNat)), .sl none n2 1 false (ints .i64 t)] (.b true) := fun {n1 n2} => by
          have := hE (n1 := n1) (n2 := n2)
          rwa [decide_eq_true (show b.t.take b.f.toNat = t by rw [m1, Int.toNat_natCast]; exact m2)] at this
        have hCl := fun {nl : Option Bool} => clone1_nn (nl := nl) (l := b.t) s1 (by omega)
        have hjn : jn c (l.drop (i + 1)) b.t (addK K b.k) (addK V b.v) = jn c l [] [] [] := by
          rw [← h2]
          show _ = (if _ then _ else _)
          rw [if_pos hz, if_pos ⟨m1, m2⟩]
        have hcase : (i = 0 ∧ t = [] ∧ K = [] ∧ V = []) ∨ (i ≠ 0 ∧ K.length = L ∧ V.length = L) := by
          by_cases e : i = 0
          · exact .inl ⟨e, h3 e⟩
          · have := h4 (by omega)
            exact .inr ⟨e, by omega, by omega⟩
        have hKc : K.length = b.k.length ∨ (K = [] ∧ t.length = 0) := by
          rcases hcase with ⟨_, e1, e2, _⟩ | ⟨_, h, _⟩
          · exact .inr ⟨e2, by rw [e1]; rfl⟩
          · exact .inl (by omega)
        have hVc : V.length = b.v.length ∨ (V = [] ∧ t.length = 0) := by
          rcases hcase with ⟨_, e1, _, e2⟩ | ⟨_, _, h⟩
          · exact .inr ⟨e2, by rw [e1]; rfl⟩
          · exact .inl (by omega)
        have hJ : JOk c l ⟨i + 1, b.t, addK K b.k, addK V b.v⟩ := by
          refine ⟨by show i + 1 ≤ l.length; omega, hjn, fun e => absurd e (by show ¬ i + 1 = 0; omega), fun _ => ⟨by show 0 < b.t.length; omega, by show ((addK K b.k).length : Int) = _; unfold addK; rw [mp_len]; omega, by show ((addK V b.v).length : Int) = _; unfold addK; rw [mp_len]; omega⟩, f4, fun r hr => ?_, fun r hr => ?_⟩
          · have := addK_rows h6 k1 hKc r hr
            show r.length = b.t.length; omega
          · have := addK_rows h7 v1 hVc r hr
            show r.length = b.t.length; omega
        obtain ⟨Kn, hKn⟩ : ∃ Kn : Nat → LL, ∀ p, Kn p = stp L p (fun l => K.getD l [] ++ b.k.getD l []) (fun l => K.getD l []) := ⟨_, fun _ => rfl⟩
        obtain ⟨Vn, hVn⟩ : ∃ Vn : Nat → LL, ∀ p, Vn p = stp L p (fun l => V.getD l [] ++ b.v.getD l []) (fun l => V.getD l []) := ⟨_, fun _ => rfl⟩
        have hK0a : i = 0 → Kn 0 = mp L fun _ => [] := fun e => by
          rw [hKn, (h3 e).2.1]; unfold stp; exact mp_congr fun j hj => by rw [if_neg (by omega)]; rfl
        have hV0a : i = 0 → Vn 0 = mp L fun _ => [] := fun e => by
          rw [hVn, (h3 e).2.2]; unfold stp; exact mp_congr fun j hj => by rw [if_neg (by omega)]; rfl
        have hK0b : ¬ i = 0 → K = Kn 0 := fun e => by
          symm
          have hKL : K.length = L := by exact (hcase.resolve_left fun h => e h.1).2.1
          rw [hKn]; unfold stp; rw [← hKL]
          exact (mp_congr fun j hj => by rw [if_neg (by omega)]).trans (mp_getD K [])
        have hV0b : ¬ i = 0 → V = Vn 0 := fun e => by
          symm
          have hVL : V.length = L := by exact (hcase.resolve_left fun h => e h.1).2.2
          rw [hVn]; unfold stp; rw [← hVL]
          exact (mp_congr fun j hj => by rw [if_neg (by omega)]).trans (mp_getD V [])
        have hKe : Kn L = addK K b.k := by
          rw [hKn]; unfold stp addK; rw [hkL]; exact mp_congr fun j hj => by rw [if_pos hj]
        have hVe : Vn L = addK V b.v := by
          rw [hVn]; unfold stp addK; rw [hvL]; exact mp_congr fun j hj => by rw [if_pos hj]
        have hKnl : ∀ p, (Kn p).length = L := fun p => by rw [hKn]; exact stp_len _ _ _ _
        have hVnl : ∀ p, (Vn p).length = L := fun p => by rw [hVn]; exact stp_len _ _ _ _
        have hGk : ∀ p, (K.getD p []).length ≤ 128 := fun p => by
          by_cases e : p < K.length
          · rw [h6 _ (getD_in [] e)]; exact h5
          · rw [List.getD_eq_getElem?_getD, List.getElem?_eq_none (by omega)]; show 0 ≤ 128; omega
        have hGv : ∀ p, (V.getD p []).length ≤ 128 := fun p => by
          by_cases e : p < V.length
          · rw [h7 _ (getD_in [] e)]; exact h5
          · rw [List.getD_eq_getElem?_getD, List.getElem?_eq_none (by omega)]; show 0 ≤ 128; omega
        have hKn0 := hKnl 0
        have hVn0 := hVnl 0
        have s31 := s3.1
        have hLb : L ≤ 1000000 := by omega
        clear hE h2 hd hbb hb hjn hcase h6 h7 hr
        repeat' first
          | (rw [fz_rows3]; conv => whnf)
          | (refine WP.nrm (c := .region 12 _ _) 7001 (rows3O (Kn 0)) ?_; (conv => whnf); refine And.intro (And.intro (by rw [hK0a (by omega)]; exact nle_rep (by omega)) True.intro) ?_; (conv => whnf); refine And.intro (by kernel_rfl) (And.intro (by kernel_rfl) ?_))
          | (refine WP.nrm (c := .region 12 _ _) 7001 (rows3O (Kn 0)) ?_; (conv => whnf); refine And.intro (And.intro (by rw [hK0b (by omega)]; exact .refl _) True.intro) ?_; (conv => whnf); refine And.intro (by kernel_rfl) (And.intro (by kernel_rfl) ?_))
          | (refine WP.nrm (c := .region 12 _ _) 7002 (rows3O (Vn 0)) ?_; (conv => whnf); refine And.intro (And.intro (by rw [hV0a (by omega)]; exact nle_rep (by omega)) True.intro) ?_; (conv => whnf); refine And.intro (by kernel_rfl) (And.intro (by kernel_rfl) ?_))
          | (refine WP.nrm (c := .region 12 _ _) 7002 (rows3O (Vn 0)) ?_; (conv => whnf); refine And.intro (And.intro (by rw [hV0b (by omega)]; exact .refl _) True.intro) ?_; (conv => whnf); refine And.intro (by kernel_rfl) (And.intro (by kernel_rfl) ?_))
          | apply WP.seq
          | (apply WP.region (E := eJoin) mixed tbl_ok; conv => whnf)
          | (apply WP.cond; conv => whnf)
          | (apply WP.skip; conv => whnf)
          | apply WP.block
          | (apply ex_at ha; conv => whnf)
          | (rw [ints_cut, hcut]; conv => whnf)
          | (apply reg_and; (· kernel_rfl); conv => whnf)
          | (apply ex_and; (· with_reducible exact hC); conv => whnf)
          | (apply ex_and; (· with_reducible exact hE2); conv => whnf)
          | (apply ex_and; (· with_reducible exact hWk); conv => whnf)
          | (apply ex_and; (· with_reducible exact hWv); conv => whnf)
          | (apply ex_ilen; conv => whnf)
          | (apply ex_i64; (· omega); conv => whnf)
          | (apply ex_eq; conv => whnf)
          | (apply gd_br)
          | (apply nd_gl; (· omega); conv => whnf)
          | (apply And.intro; (· first | with_reducible rfl | exact trivial | exact Or.inl ⟨rfl, rfl⟩ | exact Or.inr rfl | decide | omega | (apply Nat.le_of_ble_eq_true; rfl) | (dsimp only; omega) | (simp only [ints_len, gl_len, mp_len, List.length_cons, List.length_nil, List.length_drop, List.length_take]; omega)); conv => whnf)
          | apply br_not
          | (apply br_t; conv => whnf)
          | (apply br_yes; (· omega); conv => whnf)
          | (apply br_dec <;> intro hbr <;> (first | rw [decide_eq_true hbr] | rw [decide_eq_false hbr] | skip) <;> conv => whnf)
          | fail
        all_goals
          refine WP.loopM [13, 74, 75, 7001, 7002] (fun p : Nat => [(74, .i .i64 p), (7001, rows3O (Kn p)), (7002, rows3O (Vn p))]) (fun p => p ≤ L) (fun p => L - p) 0 ?_
          conv => whnf
          refine And.intro (And.intro ?_ ?_) (fun p hp => ?_)
          · first | omega | trivial | skip
          · conv => whnf
            repeat' first
              | apply True.intro
              | (apply ptr_and; (· kernel_rfl); conv => whnf)
              | omega
              | (apply Or.inr; rfl)
              | (apply or_row; (· rfl); (· rfl); rfl)
              | (apply And.intro <;> conv => whnf)
              | fail
          conv => whnf
          by_cases hpL : p < L
          · have hks : (Kn p).set ((p : Nat) : Int).toNat (K.getD p [] ++ b.k.getD p []) = Kn (p + 1) := by rw [hKn, hKn]; exact stp_set (F := fun l => K.getD l [] ++ b.k.getD l []) hpL
            have hvs : (Vn p).set ((p : Nat) : Int).toNat (V.getD p [] ++ b.v.getD p []) = Vn (p + 1) := by rw [hVn, hVn]; exact stp_set (F := fun l => V.getD l [] ++ b.v.getD l []) hpL
            have hKo : (gl rowsO (Kn p))[((p : Nat) : Int).toNat]? = some (rowsO (K.getD p [])) := by rw [hKn]; exact stp_at rowsO hpL
            have hVo : (gl rowsO (Vn p))[((p : Nat) : Int).toNat]? = some (rowsO (V.getD p [])) := by rw [hVn]; exact stp_at rowsO hpL
            have hKl := hKnl p
            have hVl := hVnl p
            have hKy : ((gl rowsO (Kn p)).set ((p : Nat) : Int).toNat .any)[((p : Nat) : Int).toNat]? = some .any := List.getElem?_set_self (by rw [gl_len]; omega)
            have hVy : ((gl rowsO (Vn p)).set ((p : Nat) : Int).toNat .any)[((p : Nat) : Int).toNat]? = some .any := List.getElem?_set_self (by rw [gl_len]; omega)
            have hka := gl_at (f := rowsA none) (l := b.k) (i := p) [] (by omega)
            have hva := gl_at (f := rowsA none) (l := b.v) (i := p) [] (by omega)
            have hgk : gl (rowA none) (K.getD p []) ++ gl (rowA none) (b.k.getD p []) = gl (rowA none) (K.getD p [] ++ b.k.getD p []) := by simp [gl]
            have hgv : gl (rowA none) (V.getD p []) ++ gl (rowA none) (b.v.getD p []) = gl (rowA none) (V.getD p [] ++ b.v.getD p []) := by simp [gl]
            have hk2 := k1 _ (getD_in (l := b.k) (i := p) [] (by omega))
            have hv2 := v1 _ (getD_in (l := b.v) (i := p) [] (by omega))
            have hk3 := hGk p
            have hv3 := hGv p
            have hpt : ((p : Nat) : Int).toNat < L := by omega
            clear hKn hVn hKnl hVnl hGk hGv k1 v1
            generalize K.getD p [] = gk at *
            generalize V.getD p [] = gv at *
            generalize b.k.getD p [] = bk at *
            generalize b.v.getD p [] = bv at *
            repeat' first
              | (refine WP.nrm (c := .region 18 _ _) 7001 (rows3O (Kn (p + 1))) ?_; (conv => whnf); refine And.intro (And.intro (by rw [← hks]; exact nle_put (by omega)) True.intro) ?_; (conv => whnf); refine And.intro (by kernel_rfl) (And.intro (by kernel_rfl) ?_))
              | (refine WP.nrm (c := .region 18 _ _) 7002 (rows3O (Vn (p + 1))) ?_; (conv => whnf); refine And.intro (And.intro (by rw [← hvs]; exact nle_put (by omega)) True.intro) ?_; (conv => whnf); refine And.intro (by kernel_rfl) (And.intro (by kernel_rfl) ?_))
              | apply WP.seq
              | (apply WP.region (E := eJoin) mixed tbl_ok; conv => whnf)
              | (apply WP.cond; conv => whnf)
              | (apply WP.skip; conv => whnf)
              | apply WP.block
              | (apply nd_set; (· omega); conv => whnf)
              | (apply ex_at hKo; conv => whnf)
              | (apply ex_at hVo; conv => whnf)
              | (apply ex_at hKy; conv => whnf)
              | (apply ex_at hVy; conv => whnf)
              | (apply ex_at hka; conv => whnf)
              | (apply ex_at hva; conv => whnf)
              | (rw [hgk]; conv => whnf)
              | (rw [hgv]; conv => whnf)
              | (apply reg_and; (· kernel_rfl); conv => whnf)
              | (apply ex_i64; (· omega); conv => whnf)
              | (apply ex_eq; conv => whnf)
              | (apply nd_gl; (· omega); conv => whnf)
              | (apply And.intro; (· first | with_reducible rfl | exact trivial | exact Or.inl ⟨rfl, rfl⟩ | exact Or.inr rfl | decide | omega | (apply Nat.le_of_ble_eq_true; rfl) | (dsimp only; omega) | (simp only [ints_len, gl_len, mp_len, List.length_cons, List.length_nil, List.length_drop, List.length_take]; omega)); conv => whnf)
              | (apply br_yes; (· omega); conv => whnf)
              | fail
            refine Exists.intro (p + 1) (And.intro (And.intro ?_ ?_) ?_)
            · first | omega | skip
            · first | omega | skip
            conv => whnf
            repeat' first
              | apply True.intro
              | (apply ptr_and; (· kernel_rfl); conv => whnf)
              | omega
              | (apply Or.inr; rfl)
              | (apply or_row; (· rfl); (· rfl); rfl)
              | (apply And.intro <;> conv => whnf)
              | fail
          · have e : p = L := by omega
            subst e
            rw [hKe, hVe]
            repeat' first
              | apply WP.seq
              | (apply WP.region (E := eJoin) mixed tbl_ok; conv => whnf)
              | (apply WP.cond; conv => whnf)
              | (apply WP.exit; conv => whnf)
              | (apply reg_and; (· kernel_rfl); conv => whnf)
              | (apply ex_and; (· with_reducible exact hCl); conv => whnf)
              | (apply ex_i64; (· omega); conv => whnf)
              | (apply ex_eq; conv => whnf)
              | (apply And.intro; (· first | with_reducible rfl | exact trivial | exact Or.inl ⟨rfl, rfl⟩ | exact Or.inr rfl | decide | omega | (apply Nat.le_of_ble_eq_true; rfl) | (dsimp only; omega) | (simp only [ints_len, gl_len, mp_len, List.length_cons, List.length_nil, List.length_drop, List.length_take]; omega)); conv => whnf)
              | (apply br_no; (· omega); conv => whnf)
              | fail
            refine Exists.intro ⟨i + 1, b.t, addK K b.k, addK V b.v⟩ (And.intro (And.intro hJ (by show l.length - (i + 1) < l.length - i; omega)) ?_)
            conv => whnf
            repeat' first
              | apply True.intro
              | (apply ptr_and; (· kernel_rfl); conv => whnf)
              | omega
              | (apply Or.inr; rfl)
              | (apply or_row; (· rfl); (· rfl); rfl)
              | (apply And.intro <;> conv => whnf)
              | rfl
              | fail
      · have hr2 : jn c (b :: l.drop (i + 1)) t K V = ([], [], [], 8) := by
          show (if _ then _ else _) = _
          rw [if_pos hz, if_neg hm]
        rw [hr2] at h2
        rw [← h2] at hr
        subst hr
        have hE2 : b.f = t.length → ∀ {n1 n2 : Option Bool}, Impl Try.prog 46 [.sl none n1 1 false (ints .i64 (b.t.take b.f.toNat)), .sl none n2 1 false (ints .i64 t)] (.b false) := fun e {n1 n2} => by
          have := hE (n1 := n1) (n2 := n2)
          rwa [decide_eq_false fun q => hm ⟨e, by rw [show t.length = b.f.toNat by omega]; exact q⟩] at this
        clear hE h2 hd hbb hb
        repeat' first
          | (rw [fz_rows3]; conv => whnf)
          | apply WP.seq
          | (apply WP.region (E := eJoin) mixed tbl_ok; conv => whnf)
          | (apply WP.cond; conv => whnf)
          | (apply WP.skip; conv => whnf)
          | (apply WP.ret; conv => whnf)
          | apply WP.block
          | (apply ex_at ha; conv => whnf)
          | (rw [ints_cut, hcut]; conv => whnf)
          | (apply reg_and; (· kernel_rfl); conv => whnf)
          | (apply ex_and; (· with_reducible exact hC); conv => whnf)
          | (apply ex_and; (· with_reducible exact hE2 (by omega)); conv => whnf)
          | (apply ex_ilen; conv => whnf)
          | (apply ex_eq; conv => whnf)
          | (apply gd_br)
          | (apply nd_gl; (· omega); conv => whnf)
          | (apply nodup_and; (· exact of_decide_eq_true (by kernel_rfl)); conv => whnf)
          | (apply And.intro; (· first | with_reducible rfl | exact trivial | exact Or.inl ⟨rfl, rfl⟩ | exact Or.inr rfl | decide | omega | (apply Nat.le_of_ble_eq_true; rfl) | (dsimp only; omega) | (simp only [ints_len, gl_len, mp_len, List.length_cons, List.length_nil, List.length_drop, List.length_take]; omega)); conv => whnf)
          | apply br_not
          | (apply br_t; conv => whnf)
          | (apply br_f; conv => whnf)
          | (apply br_yes; (· omega); conv => whnf)
          | (apply br_no; (· omega); conv => whnf)
          | (apply br_dec <;> intro hbr <;> (first | rw [decide_eq_true hbr] | rw [decide_eq_false hbr] | skip) <;> conv => whnf)
          | fail
        repeat' first
          | apply True.intro
          | exact Int.NonNeg.mk _
          | (apply Or.inl; rfl)
          | (apply or_row; (· rfl); (· rfl); rfl)
          | (apply And.intro <;> conv => whnf)
          | (apply Nat.le_of_ble_eq_true; rfl)
          | fail
    · have hr2 : jn c (b :: l.drop (i + 1)) t K V = ([], [], [], chkB c b.t b.f b.k b.v) := by
        show (if _ then _ else _) = _
        rw [if_neg hz]
      rw [hr2] at h2
      rw [← h2] at hr
      subst hr
      clear h2 hd hbb hb
      generalize chkB c b.t b.f b.k b.v = q at *
      repeat' first
        | (rw [fz_rows3]; conv => whnf)
        | apply WP.seq
        | (apply WP.region (E := eJoin) mixed tbl_ok; conv => whnf)
        | (apply WP.cond; conv => whnf)
        | (apply WP.skip; conv => whnf)
        | (apply WP.ret; conv => whnf)
        | apply WP.block
        | (apply ex_at ha; conv => whnf)
        | (apply reg_and; (· kernel_rfl); conv => whnf)
        | (apply ex_and; (· with_reducible exact hC); conv => whnf)
        | (apply ex_eq; conv => whnf)
        | (apply nd_gl; (· omega); conv => whnf)
        | (apply nodup_and; (· exact of_decide_eq_true (by kernel_rfl)); conv => whnf)
        | (apply And.intro; (· first | with_reducible rfl | exact trivial | exact Or.inl ⟨rfl, rfl⟩ | exact Or.inr rfl | decide | omega | (apply Nat.le_of_ble_eq_true; rfl) | (dsimp only; omega) | (simp only [ints_len, gl_len, mp_len, List.length_cons, List.length_nil, List.length_drop, List.length_take]; omega)); conv => whnf)
        | apply br_not
        | (apply br_yes; (· omega); conv => whnf)
        | (apply br_no; (· omega); conv => whnf)
        | fail
      repeat' first
        | apply True.intro
        | exact Int.NonNeg.mk _
        | (apply Or.inl; rfl)
        | (apply or_row; (· rfl); (· rfl); rfl)
        | (apply And.intro <;> conv => whnf)
        | (apply Nat.le_of_ble_eq_true; rfl)
        | fail
  · have e : i = l.length := by omega
    subst e
    rw [List.drop_length] at h2
    have hr2 : r = (t, K, V, 0) := by rw [hr, ← h2]; rfl
    subst hr2
    clear hr h2
    repeat' first
      | apply WP.seq
      | (apply WP.region (E := eJoin) mixed tbl_ok; conv => whnf)
      | (apply WP.cond; conv => whnf)
      | (apply WP.ret; conv => whnf)
      | (apply WP.exit; conv => whnf)
      | (apply reg_and; (· kernel_rfl); conv => whnf)
      | (apply ex_eq; conv => whnf)
      | (apply nodup_and; (· exact of_decide_eq_true (by kernel_rfl)); conv => whnf)
      | (apply And.intro; (· first | with_reducible rfl | exact trivial | exact Or.inl ⟨rfl, rfl⟩ | exact Or.inr rfl | decide | omega | (apply Nat.le_of_ble_eq_true; rfl) | (dsimp only; omega) | (simp only [ints_len, gl_len, mp_len, List.length_cons, List.length_nil, List.length_drop, List.length_take]; omega)); conv => whnf)
      | (apply br_no; (· omega); conv => whnf)
      | fail
    repeat' first
      | apply True.intro
      | exact Int.NonNeg.mk _
      | (apply Or.inr; rfl)
      | (apply Or.inl; rfl)
      | (apply or_row; (· rfl); (· rfl); rfl)
      | (apply And.intro <;> conv => whnf)
      | (apply Nat.le_of_ble_eq_true; rfl)
      | fail
end Go.Proofs.Ytjihjjbieeofdaa.T
namespace Go.Proofs.Ytjihjjbieeofdaa.T
set_option linter.unusedSimpArgs false
set_option linter.unusedVariables false
open Go
set_option linter.unusedVariables false
set_option maxHeartbeats 8000000
set_option maxRecDepth 100000
theorem take_eq_of {a t : List Int} (hl : t.length ≤ a.length) (h : ∀ p, p < t.length → a.getD p 0 = t.getD p 0) : a.take t.length = t := by
  refine list_ext (by rw [List.length_take]; omega) fun j hj => ?_
  rw [List.length_take] at hj
  rw [← h j (by omega), List.getD_eq_getElem?_getD, List.getElem?_take, if_pos (by omega), ← List.getD_eq_getElem?_getD]
theorem take_getD {a t : List Int} (h : a.take t.length = t) {p : Nat} (hp : p < t.length) : a.getD p 0 = t.getD p 0 := by
  have : (a.take t.length).getD p 0 = t.getD p 0 := by rw [h]
  rw [← this, List.getD_eq_getElem?_getD, List.getD_eq_getElem?_getD, List.getElem?_take, if_pos hp]
theorem nilA_ff (m : Nat) : nilA (some false) m = some false := by unfold nilA; split <;> rfl
def eRJoin : Env := ⟨tbl, [], [99, 111], [], [(0, [1, 2, 4, 3999, 3000, 3001, 3002, 3003, 3004, 5999, 5000, 5001, 5002]), (1, [1, 2, 4, 6, 3999, 3000, 3001, 3002, 3003, 3004, 5999, 5000, 5001, 5002, 7999, 7000, 7001, 7002]), (2, [2, 4, 6, 17, 18, 19, 3999, 3000, 3001, 3002, 3003, 3004, 5999, 5000, 5001, 5002, 7999, 7000, 7001, 7002]), (3, [2, 4, 6, 17, 18, 19, 20, 3999, 3000, 3001, 3002, 3003, 3004, 5999, 5000, 5001, 5002, 7999, 7000, 7001, 7002]), (4, [2, 4, 6, 8, 17, 18, 19, 3999, 3000, 3001, 3002, 3003, 3004, 5999, 5000, 5001, 5002, 7999, 7000, 7001, 7002, 9999, 9000, 9001, 9002, 9003]), (5, [2, 4, 6, 8, 9, 17, 18, 19, 3999, 3000, 3001, 3002, 3003, 3004, 5999, 5000, 5001, 5002, 7999, 7000, 7001, 7002, 9999, 9000, 9001, 9002, 9003]), (6, [2, 4, 6, 8, 9, 17, 18, 19, 27, 3999, 3000, 3001, 3002, 3003, 3004, 5999, 5000, 5001, 5002, 7999, 7000, 7001, 7002, 9999, 9000, 9001, 9002, 9003]), (7, [4, 5, 5999, 5000, 5001, 5002]), (8, [2, 4, 6, 8, 10, 17, 18, 19, 3999, 3000, 3001, 3002, 3003, 3004, 5999, 5000, 5001, 5002, 7999, 7000, 7001, 7002, 9999, 9000, 9001, 9002, 9003]), (9, [2, 4, 6, 8, 10, 11, 17, 18, 19, 3999, 3000, 3001, 3002, 3003, 3004, 5999, 5000, 5001, 5002, 7999, 7000, 7001, 7002, 9999, 9000, 9001, 9002, 9003]), (10, [2, 4, 6, 8, 10, 11, 17, 18, 19, 42, 3999, 3000, 3001, 3002, 3003, 3004, 5999, 5000, 5001, 5002, 7999, 7000, 7001, 7002, 9999, 9000, 9001, 9002, 9003]), (11, [2, 4, 6, 8, 10, 11, 17, 18, 19, 3999, 3000, 3001, 3002, 3003, 3004, 5999, 5000, 5001, 5002, 7999, 7000, 7001, 7002, 9999, 9000, 9001, 9002, 9003]), (12, [2, 4, 6, 8, 10, 11, 17, 18, 19, 3999, 3000, 3001, 3002, 3003, 3004, 5999, 5000, 5001, 5002, 7999, 7000, 7001, 7002, 9999, 9000, 9001, 9002, 9003]), (13, [2, 4, 6, 8, 17, 18, 19, 57, 3999, 3000, 3001, 3002, 3003, 3004, 5999, 5000, 5001, 5002, 7999, 7000, 7001, 7002, 9999, 9000, 9001, 9002, 9003]), (14, [4, 5, 5999, 5000, 5001, 5002]), (15, [2, 4, 6, 8, 12, 17, 18, 19, 3999, 3000, 3001, 3002, 3003, 3004, 5999, 5000, 5001, 5002, 7999, 7000, 7001, 7002, 9999, 9000, 9001, 9002, 9003, 13999, 13000, 13001, 13002]), (16, [2, 4, 6, 8, 12, 17, 18, 19, 64, 65, 3999, 3000, 3001, 3002, 3003, 3004, 5999, 5000, 5001, 5002, 7999, 7000, 7001, 7002, 9999, 9000, 9001, 9002, 9003, 13999, 13000, 13001, 13002]), (17, [2, 4, 6, 8, 12, 17, 18, 19, 64, 65, 66, 3999, 3000, 3001, 3002, 3003, 3004, 5999, 5000, 5001, 5002, 7999, 7000, 7001, 7002, 9999, 9000, 9001, 9002, 9003, 13999, 13000, 13001, 13002]), (18, [2, 4, 6, 8, 12, 13, 17, 18, 19, 64, 65, 3999, 3000, 3001, 3002, 3003, 3004, 5999, 5000, 5001, 5002, 7999, 7000, 7001, 7002, 9999, 9000, 9001, 9002, 9003, 13999, 13000, 13001, 13002]), (19, [2, 4, 6, 8, 12, 13, 14, 15, 17, 18, 19, 64, 65, 3999, 3000, 3001, 3002, 3003, 3004, 5999, 5000, 5001, 5002, 7999, 7000, 7001, 7002, 9999, 9000, 9001, 9002, 9003, 13999, 13000, 13001, 13002]), (20, [2, 4, 6, 8, 12, 13, 14, 15, 17, 18, 19, 64, 65, 74, 3999, 3000, 3001, 3002, 3003, 3004, 5999, 5000, 5001, 5002, 7999, 7000, 7001, 7002, 9999, 9000, 9001, 9002, 9003, 13999, 13000, 13001, 13002]), (21, [2, 4, 6, 8, 12, 13, 14, 15, 17, 18, 19, 64, 65, 3999, 3000, 3001, 3002, 3003, 3004, 5999, 5000, 5001, 5002, 7999, 7000, 7001, 7002, 9999, 9000, 9001, 9002, 9003, 13999, 13000, 13001, 13002]), (22, [2, 4, 6, 8, 12, 13, 14, 15, 17, 18, 19, 64, 65, 3999, 3000, 3001, 3002, 3003, 3004, 5999, 5000, 5001, 5002, 7999, 7000, 7001, 7002, 9999, 9000, 9001, 9002, 9003, 13999, 13000, 13001, 13002]), (23, [2, 4, 6, 8, 12, 13, 15, 17, 18, 19, 64, 65, 3999, 3000, 3001, 3002, 3003, 3004, 5999, 5000, 5001, 5002, 7999, 7000, 7001, 7002, 9999, 9000, 9001, 9002, 9003, 13999, 13000, 13001, 13002]), (24, [2, 4, 6, 8, 12, 17, 18, 19, 64, 65, 3999, 3000, 3001, 3002, 3003, 3004, 5999, 5000, 5001, 5002, 7999, 7000, 7001, 7002, 9999, 9000, 9001, 9002, 9003, 13999, 13000, 13001, 13002]), (25, [2, 4, 6, 8, 12, 17, 18, 19, 64, 65, 3999, 3000, 3001, 3002, 3003, 3004, 5999, 5000, 5001, 5002, 7999, 7000, 7001, 7002, 9999, 9000, 9001, 9002, 9003, 13999, 13000, 13001, 13002]), (26, [2, 4, 6, 17, 18, 19, 3999, 3000, 3001, 3002, 3003, 3004, 5999, 5000, 5001, 5002, 7999, 7000, 7001, 7002]), (27, [2, 4, 6, 17, 18, 19, 3999, 3000, 3001, 3002, 3003, 3004, 5999, 5000, 5001, 5002, 7999, 7000, 7001, 7002]), (28, [4, 5, 5999, 5000, 5001, 5002])]⟩
theorem rjoin_ok {nl : Option Bool} {c : Cfg} {l : List Bk} (hl : l.length ≤ 1000000) (hb : ∀ b ∈ l, BkS b) (r : List Int × LL × LL × Int) (hr : r = jn c l [] [] []) (o : Option Nat) (ho : o = if r.2.2.2 = 0 ∧ 0 < l.length then none else some 0) : Impl Try.prog 16 [cfgA c, .sl none nl 4 true (gl blkF l)] (.tup [.agg [.sl o none 1 false (ints .i64 r.1), rows3F (some 0) r.2.1, rows3F (some 0) r.2.2.1], .i .i64 r.2.2.2]) := by
  refine impl_of (fn := Try.f16) tbl_ok (by kernel_rfl) (by kernel_rfl) rfl ⟨by simp [Try.f16], by decide⟩ rfl fun W0 => ?_
  repeat' first
    | apply WP.seq
    | (apply WP.region (E := eRJoin) mixed tbl_ok; conv => whnf)
    | apply WP.block
    | (apply reg_and; (· kernel_rfl); conv => whnf)
    | (apply ex_glen; conv => whnf)
    | fail
  refine WP.loopM [8, 9, 10, 11, 12, 13, 14, 15, 19, 20, 27, 42, 57, 64, 65, 66, 74, 7000, 7001, 7002, 9999, 9000, 9001, 9002, 9003, 13999, 13000, 13001, 13002] (fun x : JS => [(19, .i .i64 x.i), (7000, match x.i with | 0 => .sl (some 0) (some true) 1 false [] | _ + 1 => .sl none none 1 false (ints .i64 x.t)), (7001, rows3F (some 0) x.k), (7002, rows3F (some 0) x.v)]) (fun x => JOk c l x) (fun x => l.length - x.i) ⟨0, [], [], []⟩ ?_
  conv => whnf
  refine And.intro (And.intro ?_ ?_) (fun x hx => ?_)
  · exact ⟨Nat.zero_le _, rfl, fun _ => ⟨rfl, rfl, rfl⟩, fun h => absurd h (by show ¬ 0 < 0; omega), by show 0 ≤ 128; omega, fun r hr => (by cases hr), fun r hr => (by cases hr)⟩
  · conv => whnf
    repeat' first
      | apply True.intro
      | (apply ptr_and; (· kernel_rfl); conv => whnf)
      | omega
      | (apply Or.inr; rfl)
      | (apply Or.inl; rfl)
      | (apply or_row; (· rfl); (· rfl); rfl)
      | (apply And.intro <;> conv => whnf)
      | rfl
      | fail
  conv => whnf
  obtain ⟨i, t, K, V⟩ := x
  obtain ⟨h1, h2, h3, h4, h5, h6, h7⟩ := hx
  dsimp only at h1 h2 h3 h4 h5 h6 h7 ⊢
  by_cases hil : i < l.length
  · have ha := gl_at (f := blkF) (l := l) (i := i) bkN hil
    have hs := hb _ (getD_in (l := l) (i := i) bkN hil)
    have hd : l.drop i = l.getD i bkN :: l.drop (i + 1) := by
      rw [List.getD_eq_getElem?_getD, List.getElem?_eq_getElem hil, List.drop_eq_getElem_cons hil]; rfl
    obtain ⟨b, hbb⟩ : ∃ b, b = l.getD i bkN := ⟨_, rfl⟩
    rw [← hbb] at ha hs hd
    rw [hd] at h2
    obtain ⟨s1, s2, s3, s4⟩ := hs
    have hC := fun {n1 n2 n3 : Option Bool} => rcheck11_ok (n1 := n1) (n2 := n2) (n3 := n3) c s1 s2 s3 s4
    by_cases hz : chkB c b.t b.f b.k b.v = 0
    · rw [hz] at hC
      obtain ⟨⟨f1, f2, f3, f4, f5, f6⟩, g1, g2⟩ := chkB_zero hz
      obtain ⟨q, hq⟩ : ∃ q : Nat, b.f = q := ⟨b.f.toNat, by omega⟩
      obtain ⟨g0, hg0⟩ : ∃ g0 : Bool, g0 = ((q : Int) == (t.length : Int)) := ⟨_, rfl⟩
      have hst : g0 = true ↔ q = t.length ∧ ∀ p, p < 0 → b.t.getD p 0 = t.getD p 0 := by
        rw [hg0, beq_iff_eq]; exact ⟨fun h => ⟨by omega, fun p hp => absurd hp (by omega)⟩, fun h => by omega⟩
      have hga : (blkF b) = .agg [.sl none none 1 false (ints .i64 b.t), .i .i64 (q : Int), .sl none none 1 true (gl (rowsA none) b.k), .sl none none 1 true (gl (rowsA none) b.v)] := by show AV.agg [_, .i .i64 b.f, _, _] = _; rw [hq]
      rw [hq] at hC
      rw [hga] at ha
      have ht0 : i = 0 → t = [] := fun e => (h3 e).1
      have hg0z : t.length = 0 → g0 = ((q : Int) == ((([] : List AV).length : Nat) : Int)) := fun e => by rw [hg0, e]; rfl
      obtain ⟨L, hL⟩ : ∃ L : Nat, c.layers = L := ⟨b.k.length, f5.symm⟩
      have hkL : b.k.length = L := by omega
      have hvL : b.v.length = L := by omega
      have hlen : (i = 0 ∧ K.length = 0 ∧ V.length = 0 ∧ t.length = 0) ∨ (0 < i ∧ K.length = L ∧ V.length = L) := by
        by_cases e : i = 0
        · obtain ⟨e1, e2, e3⟩ := h3 e
          exact .inl ⟨e, by rw [e2]; rfl, by rw [e3]; rfl, by rw [e1]; rfl⟩
        · have := h4 (by omega)
          exact .inr ⟨by omega, by omega, by omega⟩
      obtain ⟨n, hn⟩ : ∃ n : Nat, (b.t.length : Int) - b.f = n := ⟨((b.t.length : Int) - b.f).toNat, by omega⟩
      rw [hn] at g1 g2
      have k1 : ∀ r ∈ b.k, r.length = n := fun r hr => by have := (g1 r hr).1; omega
      have v1 : ∀ r ∈ b.v, r.length = n := fun r hr => by have := (g2 r hr).1; omega
      have hGk : ∀ p, (K.getD p []).length ≤ 128 := fun p => by
        by_cases e : p < K.length
        · rw [h6 _ (getD_in [] e)]; exact h5
        · rw [List.getD_eq_getElem?_getD, List.getElem?_eq_none (by omega)]; show 0 ≤ 128; omega
      have hGv : ∀ p, (V.getD p []).length ≤ 128 := fun p => by
        by_cases e : p < V.length
        · rw [h7 _ (getD_in [] e)]; exact h5
        · rw [List.getD_eq_getElem?_getD, List.getElem?_eq_none (by omega)]; show 0 ≤ 128; omega
      have hno : ¬ (b.f = t.length ∧ b.t.take t.length = t) → r = ([], [], [], 8) := fun hm => by
        rw [hr, ← h2]
        show (if _ then _ else _) = _
        rw [if_pos hz, if_neg hm]
      have hJ : b.f = t.length → b.t.take t.length = t → JOk c l ⟨i + 1, b.t, addK K b.k, addK V b.v⟩ := fun m1 m2 => by
        have hjn : jn c (l.drop (i + 1)) b.t (addK K b.k) (addK V b.v) = jn c l [] [] [] := by
          rw [← h2]
          show _ = (if _ then _ else _)
          rw [if_pos hz, if_pos ⟨m1, m2⟩]
        have hKc : K.length = b.k.length ∨ (K = [] ∧ t.length = 0) := by
          rcases hlen with ⟨_, e1, _, e2⟩ | ⟨_, h, _⟩
          · exact .inr ⟨List.length_eq_zero_iff.1 e1, e2⟩
          · exact .inl (by omega)
        have hVc : V.length = b.v.length ∨ (V = [] ∧ t.length = 0) := by
          rcases hlen with ⟨_, _, e1, e2⟩ | ⟨_, _, h⟩
          · exact .inr ⟨List.length_eq_zero_iff.1 e1, e2⟩
          · exact .inl (by omega)
        refine ⟨by show i + 1 ≤ l.length; omega, hjn, fun e => absurd e (by show ¬ i + 1 = 0; omega), fun _ => ⟨by show 0 < b.t.length; omega, by show ((addK K b.k).length : Int) = _; unfold addK; rw [mp_len]; omega, by show ((addK V b.v).length : Int) = _; unfold addK; rw [mp_len]; omega⟩, f4, fun r hr => ?_, fun r hr => ?_⟩
        · have := addK_rows h6 k1 hKc r hr
          show r.length = b.t.length; omega
        · have := addK_rows h7 v1 hVc r hr
          show r.length = b.t.length; omega
      have hkb : ∀ p, p < L → (b.k.getD p []).length = n := fun p hp => k1 _ (getD_in [] (by omega))
      have hvb : ∀ p, p < L → (b.v.getD p []).length = n := fun p hp => v1 _ (getD_in [] (by omega))
      obtain ⟨Fk, hFk⟩ : ∃ Fk : Nat → List (List Int), ∀ p, Fk p = K.getD p [] ++ b.k.getD p [] := ⟨_, fun _ => rfl⟩
      obtain ⟨Fv, hFv⟩ : ∃ Fv : Nat → List (List Int), ∀ p, Fv p = V.getD p [] ++ b.v.getD p [] := ⟨_, fun _ => rfl⟩
      have hKe : mp L Fk = addK K b.k := by unfold addK; rw [hkL]; exact mp_congr fun j _ => hFk j
      have hVe : mp L Fv = addK V b.v := by unfold addK; rw [hvL]; exact mp_congr fun j _ => hFv j
      have s31 := s3.1
      have hn2 : n ≤ 16 := by omega
      clear hd hbb hb h6 h7 h3 h4 k1 v1 g1 g2
      cases i
      all_goals
        conv => whnf
        repeat' first
          | (rw [fz_rows3]; conv => whnf)
          | apply WP.seq
          | (apply WP.region (E := eRJoin) mixed tbl_ok; conv => whnf)
          | (apply WP.cond; conv => whnf)
          | (apply WP.skip; conv => whnf)
          | apply WP.block
          | (apply ex_at ha; conv => whnf)
          | (apply reg_and; (· kernel_rfl); conv => whnf)
          | (apply ex_and; (· with_reducible exact hC); conv => whnf)
          | (apply ex_ilen; conv => whnf)
          | (apply ex_eq; conv => whnf)
          | (apply nd_gl; (· omega); conv => whnf)
          | (apply And.intro; (· first | with_reducible rfl | exact trivial | exact Or.inl ⟨rfl, rfl⟩ | exact Or.inr rfl | decide | omega | (apply Nat.le_of_ble_eq_true; rfl) | (dsimp only; omega) | (simp only [ints_len, gl_len, mp_len, List.length_cons, List.length_nil, List.length_drop, List.length_take]; omega)); conv => whnf)
          | apply br_not
          | (apply br_t; conv => whnf)
          | (apply br_yes; (· omega); conv => whnf)
          | fail
        refine WP.loopM [10, 11, 42] (fun y : NB => [(11, .i .i64 y.1), (10, .b y.2)]) (fun y => y.1 ≤ q ∧ (y.2 = true ↔ q = t.length ∧ ∀ p, p < y.1 → b.t.getD p 0 = t.getD p 0)) (fun y => q - y.1) (0, g0) ?_
        conv => whnf
        refine And.intro (And.intro ?_ ?_) (fun y hy => ?_)
        · exact ⟨Nat.zero_le _, hst⟩
        · conv => whnf
          repeat' first
            | apply True.intro
            | (apply ptr_and; (· kernel_rfl); conv => whnf)
            | omega
            | (apply Or.inr; rfl)
            | (apply or_row; (· rfl); (· rfl); rfl)
            | (apply And.intro <;> conv => whnf)
            | exact (hg0z (by omega)).symm
            | (subst_vars; rfl)
            | fail
        conv => whnf
        obtain ⟨p, g⟩ := y
        obtain ⟨hp, hg⟩ := hy
        dsimp only at hp hg ⊢
        cases g
        · have hr3 := hno fun e => by
            have := hg.2 ⟨by omega, fun p' hp' => take_getD e.2 (by omega)⟩
            cases this
          subst hr3
          rw [if_neg (fun e => by cases e.1)] at ho
          subst ho
          repeat' first
            | apply WP.seq
            | (apply WP.region (E := eRJoin) mixed tbl_ok; conv => whnf)
            | (apply WP.cond; conv => whnf)
            | (apply WP.ret; conv => whnf)
            | (apply WP.exit; conv => whnf)
            | (apply reg_and; (· kernel_rfl); conv => whnf)
            | (apply ex_eq; conv => whnf)
            | ((with_reducible apply gd_f); conv => whnf)
            | (apply nodup_and; (· exact of_decide_eq_true (by kernel_rfl)); conv => whnf)
            | (apply And.intro; (· first | with_reducible rfl | exact trivial | exact Or.inl ⟨rfl, rfl⟩ | exact Or.inr rfl | decide | omega | (apply Nat.le_of_ble_eq_true; rfl) | (dsimp only; omega) | (simp only [ints_len, gl_len, mp_len, List.length_cons, List.length_nil, List.length_drop, List.length_take]; omega)); conv => whnf)
            | apply br_not
            | (apply br_f; conv => whnf)
            | fail
          all_goals
            repeat' first
              | apply True.intro
              | exact Int.NonNeg.mk _
              | (apply Or.inl; rfl)
              | (apply or_row; (· rfl); (· rfl); rfl)
              | (apply And.intro <;> conv => whnf)
              | (apply Nat.le_of_ble_eq_true; rfl)
              | fail
        · obtain ⟨m1, m2⟩ := hg.1 rfl
          by_cases hpq : p < q
          · obtain ⟨g3, hg3⟩ : ∃ g3 : Bool, g3 = (b.t.getD ((p : Nat) : Int).toNat 0 == t.getD ((p : Nat) : Int).toNat 0) := ⟨_, rfl⟩
            have hst2 : g3 = true ↔ q = t.length ∧ ∀ p', p' < p + 1 → b.t.getD p' 0 = t.getD p' 0 := by
              rw [hg3, beq_iff_eq, Int.toNat_natCast]
              refine ⟨fun h => ⟨m1, fun p' hp' => ?_⟩, fun h => h.2 p (by omega)⟩
              by_cases e : p' = p
              · subst e; exact h
              · exact m2 p' (by omega)
            repeat' first
              | apply WP.seq
              | (apply WP.region (E := eRJoin) mixed tbl_ok; conv => whnf)
              | (apply WP.cond; conv => whnf)
              | (apply WP.skip; conv => whnf)
              | apply WP.block
              | (apply reg_and; (· kernel_rfl); conv => whnf)
              | (apply ex_i64; (· omega); conv => whnf)
              | (apply ex_ints; (· omega); conv => whnf)
              | (apply ex_eq; conv => whnf)
              | ((with_reducible apply gd_t); conv => whnf)
              | (apply nd_ints; (· omega); conv => whnf)
              | (apply And.intro; (· first | with_reducible rfl | exact trivial | exact Or.inl ⟨rfl, rfl⟩ | exact Or.inr rfl | decide | omega | (apply Nat.le_of_ble_eq_true; rfl) | (dsimp only; omega) | (simp only [ints_len, gl_len, mp_len, List.length_cons, List.length_nil, List.length_drop, List.length_take]; omega)); conv => whnf)
              | (apply br_yes; (· omega); conv => whnf)
              | omega
              | fail
            all_goals refine Exists.intro (p + 1, g3) (And.intro (And.intro ⟨by show p + 1 ≤ q; omega, hst2⟩ (by show q - (p + 1) < q - p; omega)) ?_)
            all_goals conv => whnf
            all_goals
              repeat' first
                | apply True.intro
                | (apply ptr_and; (· kernel_rfl); conv => whnf)
                | omega
                | (apply Or.inr; rfl)
                | (apply or_row; (· rfl); (· rfl); rfl)
                | (apply And.intro <;> conv => whnf)
                | (subst_vars; rfl)
                | fail
          · have hJ2 := hJ (by omega) (take_eq_of (by omega) fun p' hp' => m2 p' (by omega))
            repeat' first
              | apply WP.seq
              | (apply WP.region (E := eRJoin) mixed tbl_ok; conv => whnf)
              | (apply WP.cond; conv => whnf)
              | (apply WP.skip; conv => whnf)
              | (apply WP.exit; conv => whnf)
              | apply WP.block
              | (apply reg_and; (· kernel_rfl); conv => whnf)
              | (apply ex_glen; conv => whnf)
              | (apply ex_eq; conv => whnf)
              | ((with_reducible apply gd_t); conv => whnf)
              | (apply And.intro; (· first | with_reducible rfl | exact trivial | exact Or.inl ⟨rfl, rfl⟩ | exact Or.inr rfl | decide | omega | (apply Nat.le_of_ble_eq_true; rfl) | (dsimp only; omega) | (simp only [ints_len, gl_len, mp_len, List.length_cons, List.length_nil, List.length_drop, List.length_take]; omega)); conv => whnf)
              | apply br_not
              | (apply br_t; conv => whnf)
              | (apply br_no; (· omega); conv => whnf)
              | fail
            refine WP.loopM [13, 14, 15, 65, 66, 74, 13001, 13002] (fun j : Nat => [(65, .i .i64 j), (13001, rows3F (some 0) (mp j Fk)), (13002, rows3F (some 0) (mp j Fv))]) (fun j => j ≤ L) (fun j => L - j) 0 ?_
            conv => whnf
            refine And.intro (And.intro ?_ ?_) (fun j hj => ?_)
            · first | omega | trivial | skip
            · conv => whnf
              repeat' first
                | apply True.intro
                | (apply ptr_and; (· kernel_rfl); conv => whnf)
                | omega
                | (apply Or.inr; rfl)
                | (apply Or.inl; rfl)
                | (apply or_row; (· rfl); (· rfl); rfl)
                | (apply And.intro <;> conv => whnf)
                | fail
            conv => whnf
            by_cases hjL : j < L
            · have hka := gl_at (f := rowsA none) (l := b.k) (i := j) [] (by omega)
              have hva := gl_at (f := rowsA none) (l := b.v) (i := j) [] (by omega)
              have hKa : j < K.length → (gl (rowsN (some false)) K)[((j : Nat) : Int).toNat]? = some (rowsN (some false) (K.getD j [])) := fun h => gl_at [] h
              have hVa : j < V.length → (gl (rowsN (some false)) V)[((j : Nat) : Int).toNat]? = some (rowsN (some false) (V.getD j [])) := fun h => gl_at [] h
              have hgk : gl (rowA none) (K.getD j []) ++ gl (rowA none) (b.k.getD j []) = gl (rowA none) (Fk j) := by rw [hFk]; simp [gl]
              have hgv : gl (rowA none) (V.getD j []) ++ gl (rowA none) (b.v.getD j []) = gl (rowA none) (Fv j) := by rw [hFv]; simp [gl]
              have hzk : K.length = 0 → ([] : List AV) ++ gl (rowA none) (b.k.getD j []) = gl (rowA none) (Fk j) := fun e => by rw [hFk, List.length_eq_zero_iff.1 e]; rfl
              have hzv : V.length = 0 → ([] : List AV) ++ gl (rowA none) (b.v.getD j []) = gl (rowA none) (Fv j) := fun e => by rw [hFv, List.length_eq_zero_iff.1 e]; rfl
              have hnk : ([] : List AV) ++ gl (rowA none) (K.getD j []) = gl (rowA none) (K.getD j []) := rfl
              have hnv : ([] : List AV) ++ gl (rowA none) (V.getD j []) = gl (rowA none) (V.getD j []) := rfl
              have hsk : gl (rowsN (some false)) (mp j Fk) ++ [rowsN (some false) (Fk j)] = gl (rowsN (some false)) (mp (j + 1) Fk) := by rw [mp_succ]; simp [gl]
              have hsv : gl (rowsN (some false)) (mp j Fv) ++ [rowsN (some false) (Fv j)] = gl (rowsN (some false)) (mp (j + 1) Fv) := by rw [mp_succ]; simp [gl]
              have hlk := mp_len j Fk
              have hlv := mp_len j Fv
              have b1 := hkb j hjL
              have b2 := hvb j hjL
              have b3 := hGk j
              have b4 := hGv j
              clear hJ hJ2 hno hkb hvb hGk hGv hKe hVe hFk hFv
              generalize K.getD j [] = gk at *
              generalize V.getD j [] = gv at *
              generalize b.k.getD j [] = bk at *
              generalize b.v.getD j [] = bv at *
              repeat' first
                | (rw [fz_rows]; conv => whnf)
                | apply WP.seq
                | (apply WP.region (E := eRJoin) mixed tbl_ok; conv => whnf)
                | (apply WP.cond; conv => whnf)
                | (apply WP.skip; conv => whnf)
                | apply WP.block
                | (apply ex_at hka; conv => whnf)
                | (apply ex_at hva; conv => whnf)
                | (apply ex_at (hKa (by omega)); conv => whnf)
                | (apply ex_at (hVa (by omega)); conv => whnf)
                | (rw [hgk]; conv => whnf)
                | (rw [hgv]; conv => whnf)
                | (rw [hzk (by omega)]; conv => whnf)
                | (rw [hzv (by omega)]; conv => whnf)
                | (rw [hnk]; conv => whnf)
                | (rw [hnv]; conv => whnf)
                | (rw [nilA_ff]; conv => whnf)
                | (apply reg_and; (· kernel_rfl); conv => whnf)
                | (apply ex_glen; conv => whnf)
                | (apply ex_i64; (· omega); conv => whnf)
                | (apply ex_eq; conv => whnf)
                | (apply nd_gl; (· omega); conv => whnf)
                | (apply And.intro; (· first | with_reducible rfl | exact trivial | exact Or.inl ⟨rfl, rfl⟩ | exact Or.inr rfl | decide | omega | (apply Nat.le_of_ble_eq_true; rfl) | (dsimp only; omega) | (simp only [ints_len, gl_len, mp_len, List.length_cons, List.length_nil, List.length_drop, List.length_take]; omega)); conv => whnf)
                | (apply br_yes; (· omega); conv => whnf)
                | (apply br_no; (· omega); conv => whnf)
                | fail
              refine Exists.intro (j + 1) (And.intro (And.intro (by omega) (by omega)) ?_)
              conv => whnf
              repeat' first
                | apply True.intro
                | (apply ptr_and; (· kernel_rfl); conv => whnf)
                | omega
                | (apply Or.inr; rfl)
                | (apply Or.inl; rfl)
                | (apply or_row; (· rfl); (· rfl); rfl)
                | (apply or_row; (· rfl); (· rfl); apply gl_mp; subst_vars; rfl)
                | (apply And.intro <;> conv => whnf)
                | fail
            · have e : j = L := by omega
              subst e
              rw [hKe, hVe]
              repeat' first
                | apply WP.seq
                | (apply WP.region (E := eRJoin) mixed tbl_ok; conv => whnf)
                | (apply WP.cond; conv => whnf)
                | (apply WP.exit; conv => whnf)
                | (apply reg_and; (· kernel_rfl); conv => whnf)
                | (apply ex_i64; (· omega); conv => whnf)
                | (apply ex_eq; conv => whnf)
                | (apply And.intro; (· first | with_reducible rfl | exact trivial | exact Or.inl ⟨rfl, rfl⟩ | exact Or.inr rfl | decide | omega | (apply Nat.le_of_ble_eq_true; rfl) | (dsimp only; omega) | (simp only [ints_len, gl_len, mp_len, List.length_cons, List.length_nil, List.length_drop, List.length_take]; omega)); conv => whnf)
                | (apply br_no; (· omega); conv => whnf)
                | fail
              refine Exists.intro _ (And.intro (And.intro hJ2 (by dsimp only; omega)) ?_)
              conv => whnf
              repeat' first
                | apply True.intro
                | (apply ptr_and; (· kernel_rfl); conv => whnf)
                | omega
                | (apply Or.inr; rfl)
                | (apply or_row; (· rfl); (· rfl); rfl)
                | (apply And.intro <;> conv => whnf)
                | rfl
                | fail
    · have hr2 : jn c (b :: l.drop (i + 1)) t K V = ([], [], [], chkB c b.t b.f b.k b.v) := by
        show (if _ then _ else _) = _
        rw [if_neg hz]
      rw [hr2] at h2
      rw [← h2] at hr
      subst hr
      rw [if_neg (fun e => hz e.1)] at ho
      subst ho
      clear h2 hd hbb hb
      generalize chkB c b.t b.f b.k b.v = q at *
      cases i
      all_goals
        conv => whnf
        repeat' first
          | (rw [fz_rows3]; conv => whnf)
          | apply WP.seq
          | (apply WP.region (E := eRJoin) mixed tbl_ok; conv => whnf)
          | (apply WP.cond; conv => whnf)
          | (apply WP.skip; conv => whnf)
          | (apply WP.ret; conv => whnf)
          | apply WP.block
          | (apply ex_at ha; conv => whnf)
          | (apply reg_and; (· kernel_rfl); conv => whnf)
          | (apply ex_and; (· with_reducible exact hC); conv => whnf)
          | (apply ex_eq; conv => whnf)
          | (apply nd_gl; (· omega); conv => whnf)
          | (apply nodup_and; (· exact of_decide_eq_true (by kernel_rfl)); conv => whnf)
          | (apply And.intro; (· first | with_reducible rfl | exact trivial | exact Or.inl ⟨rfl, rfl⟩ | exact Or.inr rfl | decide | omega | (apply Nat.le_of_ble_eq_true; rfl) | (dsimp only; omega) | (simp only [ints_len, gl_len, mp_len, List.length_cons, List.length_nil, List.length_drop, List.length_take]; omega)); conv => whnf)
          | apply br_not
          | (apply br_yes; (· omega); conv => whnf)
          | (apply br_no; (· omega); conv => whnf)
          | fail
        repeat' first
          | apply True.intro
          | exact Int.NonNeg.mk _
          | (apply Or.inl; rfl)
          | (apply or_row; (· rfl); (· rfl); rfl)
          | (apply And.intro <;> conv => whnf)
          | (apply Nat.le_of_ble_eq_true; rfl)
          | fail
  · have e : i = l.length := by omega
    rw [e, List.drop_length] at h2
    have hr2 : r = (t, K, V, 0) := by rw [hr, ← h2]; rfl
    subst hr2
    clear hr h2
    cases i with
    | zero =>
      rw [if_neg (by omega)] at ho
      subst ho
      have ht0 := (h3 rfl).1
      subst ht0
      conv => whnf
      repeat' first
        | apply WP.seq
        | (apply WP.region (E := eRJoin) mixed tbl_ok; conv => whnf)
        | (apply WP.cond; conv => whnf)
        | (apply WP.ret; conv => whnf)
        | (apply WP.exit; conv => whnf)
        | (apply reg_and; (· kernel_rfl); conv => whnf)
        | (apply ex_eq; conv => whnf)
        | (apply nodup_and; (· exact of_decide_eq_true (by kernel_rfl)); conv => whnf)
        | (apply And.intro; (· first | with_reducible rfl | exact trivial | exact Or.inl ⟨rfl, rfl⟩ | exact Or.inr rfl | decide | omega | (apply Nat.le_of_ble_eq_true; rfl) | (dsimp only; omega) | (simp only [ints_len, gl_len, mp_len, List.length_cons, List.length_nil, List.length_drop, List.length_take]; omega)); conv => whnf)
        | (apply br_no; (· omega); conv => whnf)
        | fail
      repeat' first
        | apply True.intro
        | exact Int.NonNeg.mk _
        | (apply Or.inr; rfl)
        | (apply Or.inl; rfl)
        | (apply or_row; (· rfl); (· rfl); rfl)
        | (apply And.intro <;> conv => whnf)
        | (apply Nat.le_of_ble_eq_true; rfl)
        | fail
    | succ i =>
      rw [if_pos ⟨rfl, by omega⟩] at ho
      subst ho
      conv => whnf
      repeat' first
        | apply WP.seq
        | (apply WP.region (E := eRJoin) mixed tbl_ok; conv => whnf)
        | (apply WP.cond; conv => whnf)
        | (apply WP.ret; conv => whnf)
        | (apply WP.exit; conv => whnf)
        | (apply reg_and; (· kernel_rfl); conv => whnf)
        | (apply ex_eq; conv => whnf)
        | (apply nodup_and; (· exact of_decide_eq_true (by kernel_rfl)); conv => whnf)
        | (apply And.intro; (· first | with_reducible rfl | exact trivial | exact Or.inl ⟨rfl, rfl⟩ | exact Or.inr rfl | decide | omega | (apply Nat.le_of_ble_eq_true; rfl) | (dsimp only; omega) | (simp only [ints_len, gl_len, mp_len, List.length_cons, List.length_nil, List.length_drop, List.length_take]; omega)); conv => whnf)
        | (apply br_no; (· omega); conv => whnf)
        | fail
      repeat' first
        | apply True.intro
        | exact Int.NonNeg.mk _
        | (apply Or.inr; rfl)
        | (apply or_row; (· rfl); (· rfl); rfl)
        | (apply And.intro <;> conv => whnf)
        | (apply Nat.le_of_ble_eq_true; rfl)
        | fail
end Go.Proofs.Ytjihjjbieeofdaa.T
namespace Go.Proofs.Ytjihjjbieeofdaa.T
set_option linter.unusedSimpArgs false
set_option linter.unusedVariables false
open Go
set_option linter.unusedVariables false
set_option maxHeartbeats 8000000
set_option maxRecDepth 100000
end Go.Proofs.Ytjihjjbieeofdaa.T
namespace Go.Proofs.Ytjihjjbieeofdaa.T
set_option linter.unusedSimpArgs false
set_option linter.unusedVariables false
open Go
set_option linter.unusedVariables false
set_option maxHeartbeats 8000000
set_option maxRecDepth 100000
def eSame9F : Env := ⟨tbl, [], [], [], [(0, [2, 3, 3999, 3000, 3001, 3002, 4999, 4000, 4001, 4002]), (1, [2, 3, 28, 3999, 3000, 3001, 3002, 4999, 4000, 4001, 4002]), (2, [4]), (3, [2, 3, 31, 32, 3999, 3000, 3001, 3002, 4999, 4000, 4001, 4002]), (4, [2, 3, 31, 32, 33, 3999, 3000, 3001, 3002, 4999, 4000, 4001, 4002]), (5, [2, 3, 5, 31, 32, 3999, 3000, 3001, 3002, 4999, 4000, 4001, 4002]), (6, [2, 3, 31, 32, 45, 3999, 3000, 3001, 3002, 4999, 4000, 4001, 4002]), (7, [4]), (8, [2, 3, 31, 32, 3999, 3000, 3001, 3002, 4999, 4000, 4001, 4002]), (9, [4])]⟩
theorem same9_okF {m1 m2 m3 n1 n2 n3 : Option Bool} {t : List Int} {K W : List (List (List Int))} (ht : t.length ≤ 1000000000000) (hK : K.length ≤ 1000000000000 ∧ ∀ x ∈ K, x.length ≤ 1000000000000 ∧ ∀ y ∈ x, y.length ≤ 1000000000000) (hW : W.length ≤ 1000000000000 ∧ ∀ x ∈ W, x.length ≤ 1000000000000 ∧ ∀ y ∈ x, y.length ≤ 1000000000000) : Impl Try.prog 18 [.agg [.sl none m1 1 false (ints .i64 t), .sl none m2 1 true (gl (rowsA none) K), .sl none m3 1 true (gl (rowsA none) W)], .agg [.sl none n1 1 false (ints .i64 t), .sl none n2 1 true (gl (rowsN (some false)) K), .sl none n3 1 true (gl (rowsN (some false)) W)]] (.b true) := by
  have hs1 : ∀ {n1 n2 : Option Bool}, Impl Try.prog 51 [.sl none n1 1 true (gl (rowsA none) K), .sl none n2 1 true (gl (rowsN (some false)) K)] (.b true) := fun {n1 n2} => by
    have := same8_ok (n1 := n1) (n2 := n2) (n3 := none) (n4 := some false) (a := K) (b := K) hK.1 hK.2
    rwa [decide_eq_true rfl] at this
  have hs2 : ∀ {n1 n2 : Option Bool}, Impl Try.prog 51 [.sl none n1 1 true (gl (rowsA none) W), .sl none n2 1 true (gl (rowsN (some false)) W)] (.b true) := fun {n1 n2} => by
    have := same8_ok (n1 := n1) (n2 := n2) (n3 := none) (n4 := some false) (a := W) (b := W) hW.1 hW.2
    rwa [decide_eq_true rfl] at this
  refine impl_of (fn := Try.f18) tbl_ok (by kernel_rfl) (by kernel_rfl) rfl ⟨by simp [Try.f18], by decide⟩ rfl fun W0 => ?_
  repeat' first
    | (rw [fz_rows3]; conv => whnf)
    | (rw [fz_rowsN]; conv => whnf)
    | apply WP.seq
    | (apply WP.region (E := eSame9F) mixed tbl_ok; conv => whnf)
    | (apply WP.cond; conv => whnf)
    | (apply WP.skip; conv => whnf)
    | apply WP.block
    | (apply reg_and; (· kernel_rfl); conv => whnf)
    | (apply ex_and; (· with_reducible exact hs1); conv => whnf)
    | (apply ex_and; (· with_reducible exact hs2); conv => whnf)
    | (apply ex_ilen; conv => whnf)
    | (apply ex_eq; conv => whnf)
    | ((with_reducible apply gd_nt); conv => whnf)
    | (apply gd_br)
    | (apply And.intro; (· first | with_reducible rfl | exact trivial | exact Or.inl ⟨rfl, rfl⟩ | exact Or.inr rfl | decide | omega | (apply Nat.le_of_ble_eq_true; rfl) | (dsimp only; omega) | (simp only [ints_len, gl_len, mp_len, List.length_cons, List.length_nil, List.length_drop, List.length_take]; omega)); conv => whnf)
    | apply br_not
    | (apply br_t; conv => whnf)
    | (apply br_yes; (· omega); conv => whnf)
    | fail
  refine WP.loopM [5, 32, 33, 45] (fun i : Nat => [(32, .i .i64 i)]) (fun i => i ≤ t.length) (fun i => t.length - i) 0 ?_
  conv => whnf
  refine And.intro (And.intro ?_ ?_) (fun i hi => ?_)
  · first | omega | trivial | skip
  · conv => whnf
    repeat' first
      | apply True.intro
      | (apply ptr_and; (· kernel_rfl); conv => whnf)
      | omega
      | (apply Or.inr; rfl)
      | (apply or_row; (· rfl); (· rfl); rfl)
      | (apply And.intro <;> conv => whnf)
      | fail
  conv => whnf
  repeat' first
    | apply WP.seq
    | (apply WP.region (E := eSame9F) mixed tbl_ok; conv => whnf)
    | (apply WP.cond; conv => whnf)
    | (apply WP.skip; conv => whnf)
    | (apply WP.ret; conv => whnf)
    | (apply WP.exit; conv => whnf)
    | apply WP.block
    | (apply reg_and; (· kernel_rfl); conv => whnf)
    | (apply ex_i64; (· omega); conv => whnf)
    | (apply ex_ints; (· omega); conv => whnf)
    | (apply ex_eq; conv => whnf)
    | (apply nd_ints; (· omega); conv => whnf)
    | (apply And.intro; (· first | with_reducible rfl | exact trivial | exact Or.inl ⟨rfl, rfl⟩ | exact Or.inr rfl | decide | omega | (apply Nat.le_of_ble_eq_true; rfl) | (dsimp only; omega) | (simp only [ints_len, gl_len, mp_len, List.length_cons, List.length_nil, List.length_drop, List.length_take]; omega)); conv => whnf)
    | apply br_not
    | (apply br_yes; (· omega); conv => whnf)
    | (apply br_dec <;> intro hbr <;> (first | rw [decide_eq_true hbr] | rw [decide_eq_false hbr] | skip) <;> conv => whnf)
    | fail
  refine Exists.intro (i + 1) (And.intro (And.intro ?_ ?_) ?_)
  · first | omega | skip
  · first | omega | skip
  conv => whnf
  repeat' first
    | apply True.intro
    | (apply ptr_and; (· kernel_rfl); conv => whnf)
    | omega
    | (apply Or.inr; rfl)
    | (apply or_row; (· rfl); (· rfl); rfl)
    | (apply And.intro <;> conv => whnf)
    | fail
def eSmall11 : Env := ⟨tbl, [], [], [], [(0, [0, 1999, 1000, 1001, 1002, 1003, 1004]), (1, [0, 1999, 1000, 1001, 1002, 1003, 1004])]⟩
theorem small11_ok : Impl Try.prog 49 [] (.agg [.i .i64 9, .i .i64 1, .i .i64 1, .i .i64 1, .i .i64 1]) := by
  refine impl_of (fn := Try.f49) tbl_ok (by kernel_rfl) (by kernel_rfl) rfl ⟨by simp [Try.f49], by decide⟩ rfl fun W0 => ?_
  repeat' first
    | apply WP.seq
    | (apply WP.region (E := eSmall11) mixed tbl_ok; conv => whnf)
    | (apply WP.ret; conv => whnf)
    | (apply reg_and; (· kernel_rfl); conv => whnf)
    | (apply And.intro; (· first | with_reducible rfl | exact trivial | exact Or.inl ⟨rfl, rfl⟩ | exact Or.inr rfl | decide | omega | (apply Nat.le_of_ble_eq_true; rfl) | (dsimp only; omega) | (simp only [ints_len, gl_len, mp_len, List.length_cons, List.length_nil, List.length_drop, List.length_take]; omega)); conv => whnf)
    | fail
  repeat' first
    | apply True.intro
    | (apply And.intro <;> conv => whnf)
    | fail
/-- Less may be told of an answer's parts. -/
theorem impl_nle {P : Program} {f : Nat} {ars l l' : List AV} (h : Impl P f ars (.agg l)) (hh : headOk ars = true) (hn : ∀ e, ars[0]? = some e → ∀ l, e ≠ .tup l) (hl : l'.length = l.length) (hle : ∀ (j : Nat) (e e' : AV), l[j]? = some e → l'[j]? = some e' → NLe e e') : Impl P f ars (.agg l') := by
  have hi := h.f hn
  refine headOk_impl hh ⟨hi.fn, fun F w vs hs hv hF => (hi.calls F w vs hs hv hF).mono fun e w' hx => ?_⟩
  obtain ⟨v, S, ts, h1, h2, h3, h4⟩ := hx
  refine ⟨v, S, ts, h1, h2, ?_, h4⟩
  obtain ⟨arr, rfl, hr⟩ : ∃ arr, v = .agg arr ∧ Rp w' (fun b => F b ∨ S b) (.agg l) arr.toList ts := h3
  refine (⟨arr, rfl, ?_⟩ : ∃ arr2, Value.agg arr = .agg arr2 ∧ Rp w' (fun b => F b ∨ S b) (.agg l') arr2.toList ts)
  cases hr with
  | @agg _ _ tf h5 h6 h7 =>
    have hget : ∀ (j : Nat) (e' : AV), l'[j]? = some e' → ∃ e, l[j]? = some e ∧ NLe e e' := fun j e' he' => by
      have hj := lt_of_get he'
      exact ⟨l[j]'(by omega), List.getElem?_eq_getElem (by omega), hle j _ _ (List.getElem?_eq_getElem (by omega)) he'⟩
    have := Rp.agg (w := w') (F := fun b => F b ∨ S b) (l := l') (cs := arr.toList) (ts := tf) (by omega) (fun j e' he' => by
      obtain ⟨e, q1, q2⟩ := hget j e' he'
      exact q2.na (h6 j e q1)) (fun j e' u he' hu => by
      obtain ⟨e, q1, q2⟩ := hget j e' he'
      exact NLe.rp (h7 j e u q1 hu) q2)
    rw [hl] at this
    exact this
theorem nle_rowF (x : List AV) {nl : Option Bool} : NLe (.sl none nl 1 false x) (.sl none none 1 false x) := .fz (.inl rfl) rfl fun j e e' h1 h2 => by rw [h1] at h2; cases h2; exact .refl _
theorem nle_one {s s' : Nat} {nl nl2 nl3 : Option Bool} (x : List AV) : NLe (.sl (some s) nl 1 true [.sl none nl2 1 true [.sl none nl3 1 false x]]) (.sl (some s') none 1 true [.sl none none 1 true [.sl none none 1 false x]]) :=
  .sl (.inl rfl) rfl fun j e e' h1 h2 => by
    cases j with
    | zero =>
      cases h1; cases h2
      exact .fz (.inl rfl) rfl fun j e e' h1 h2 => by
        cases j with
        | zero => cases h1; cases h2; exact nle_rowF _
        | succ j => cases h1
    | succ j => cases h1
def eRef0 : Env := ⟨tbl, [], [], [], [(0, [0, 1999, 1000, 1001, 1002, 1003]), (1, [0, 1999, 1000, 1001, 1002, 1003])]⟩
theorem ref0_ok : Impl Try.prog 50 [] (bkO (some 0) [5] 0 [[[1]]] [[[-1]]]) := by
  have h : Impl Try.prog 50 [] (.agg [.sl (some 0) (some false) 1 false [.i .i64 5], .i .i64 0, .sl (some 0) (some false) 1 true [.sl none (some false) 1 true [.sl none (some false) 1 false [.i .i32 1]]], .sl (some 0) (some false) 1 true [.sl none (some false) 1 true [.sl none (some false) 1 false [.i .i32 (-1)]]]]) := by
    refine impl_of (fn := Try.f50) tbl_ok (by kernel_rfl) (by kernel_rfl) rfl ⟨by simp [Try.f50], by decide⟩ rfl fun W0 => ?_
    repeat' first
      | apply WP.seq
      | (apply WP.region (E := eRef0) mixed tbl_ok; conv => whnf)
      | (apply WP.ret; conv => whnf)
      | (apply reg_and; (· kernel_rfl); conv => whnf)
      | (apply And.intro; (· first | with_reducible rfl | exact trivial | exact Or.inl ⟨rfl, rfl⟩ | exact Or.inr rfl | decide | omega | (apply Nat.le_of_ble_eq_true; rfl) | (dsimp only; omega) | (simp only [ints_len, gl_len, mp_len, List.length_cons, List.length_nil, List.length_drop, List.length_take]; omega)); conv => whnf)
      | fail
    repeat' first
      | apply True.intro
      | (apply Or.inr; rfl)
      | (apply or_row; (· rfl); (· rfl); rfl)
      | (apply And.intro <;> conv => whnf)
      | fail
  have hgo := fun l' => impl_nle (l' := l') h rfl (fun e he l => by cases he)
  refine hgo _ rfl (fun j e e' h1 h2 => ?_)
  match j with
  | 0 => cases h1; cases h2; exact .sl (.inl rfl) rfl fun j e e' h1 h2 => by have h3 : ([AV.i .i64 5] : List AV)[j]? = some e' := h2; rw [h1] at h3; cases h3; exact .refl _
  | 1 => cases h1; cases h2; exact .refl _
  | 2 => cases h1; cases h2; exact nle_one _
  | 3 => cases h1; cases h2; exact nle_one _
  | n + 4 => cases h1
def eRead : Env := ⟨tbl, [], [], [], [(0, [1, 2, 4, 3999, 3000, 3001, 3002, 3003, 3004, 5999, 5000, 5001, 5002, 5003]), (1, [1, 2, 4, 18, 3999, 3000, 3001, 3002, 3003, 3004, 5999, 5000, 5001, 5002, 5003]), (2, [4, 5, 5999, 5000, 5001, 5002, 5003]), (3, [1, 2, 4, 6, 7, 3999, 3000, 3001, 3002, 3003, 3004, 5999, 5000, 5001, 5002, 5003]), (4, [2, 4, 6, 7, 8, 3999, 3000, 3001, 3002, 3003, 3004, 5999, 5000, 5001, 5002, 5003, 9999, 9000]), (5, [2, 4, 6, 7, 8, 31, 3999, 3000, 3001, 3002, 3003, 3004, 5999, 5000, 5001, 5002, 5003, 9999, 9000]), (6, [4, 5, 5999, 5000, 5001, 5002, 5003]), (7, [2, 4, 6, 7, 8, 9, 3999, 3000, 3001, 3002, 3003, 3004, 5999, 5000, 5001, 5002, 5003, 9999, 9000, 10999, 10000, 10001, 10002, 10003]), (8, [2, 4, 6, 7, 8, 9, 38, 39, 40, 3999, 3000, 3001, 3002, 3003, 3004, 5999, 5000, 5001, 5002, 5003, 9999, 9000, 10999, 10000, 10001, 10002, 10003]), (9, [2, 4, 6, 7, 8, 9, 38, 39, 40, 41, 3999, 3000, 3001, 3002, 3003, 3004, 5999, 5000, 5001, 5002, 5003, 9999, 9000, 10999, 10000, 10001, 10002, 10003]), (10, [2, 4, 6, 7, 8, 9, 11, 38, 39, 40, 3999, 3000, 3001, 3002, 3003, 3004, 5999, 5000, 5001, 5002, 5003, 9999, 9000, 10999, 10000, 10001, 10002, 10003]), (11, [2, 4, 6, 7, 8, 9, 38, 39, 40, 3999, 3000, 3001, 3002, 3003, 3004, 5999, 5000, 5001, 5002, 5003, 9999, 9000, 10999, 10000, 10001, 10002, 10003]), (12, [2, 4, 6, 7, 8, 9, 38, 39, 40, 3999, 3000, 3001, 3002, 3003, 3004, 5999, 5000, 5001, 5002, 5003, 9999, 9000, 10999, 10000, 10001, 10002, 10003]), (13, [2, 4, 6, 7, 8, 9, 3999, 3000, 3001, 3002, 3003, 3004, 5999, 5000, 5001, 5002, 5003, 9999, 9000, 10999, 10000, 10001, 10002, 10003]), (14, [2, 4, 8, 9, 12, 3999, 3000, 3001, 3002, 3003, 3004, 5999, 5000, 5001, 5002, 5003, 9999, 9000, 10999, 10000, 10001, 10002, 10003, 13999, 13000]), (15, [2, 4, 8, 9, 12, 13, 3999, 3000, 3001, 3002, 3003, 3004, 5999, 5000, 5001, 5002, 5003, 9999, 9000, 10999, 10000, 10001, 10002, 10003, 13999, 13000]), (16, [2, 4, 8, 9, 12, 82, 3999, 3000, 3001, 3002, 3003, 3004, 5999, 5000, 5001, 5002, 5003, 9999, 9000, 10999, 10000, 10001, 10002, 10003, 13999, 13000]), (17, [4, 5, 5999, 5000, 5001, 5002, 5003]), (18, [2, 4, 9, 14, 3999, 3000, 3001, 3002, 3003, 3004, 5999, 5000, 5001, 5002, 5003, 10999, 10000, 10001, 10002, 10003]), (19, [2, 4, 9, 14, 3999, 3000, 3001, 3002, 3003, 3004, 5999, 5000, 5001, 5002, 5003, 10999, 10000, 10001, 10002, 10003]), (20, [2, 4, 9, 3999, 3000, 3001, 3002, 3003, 3004, 5999, 5000, 5001, 5002, 5003, 10999, 10000, 10001, 10002, 10003]), (21, [4, 9, 15, 5999, 5000, 5001, 5002, 5003, 10999, 10000, 10001, 10002, 10003]), (22, [4, 9, 15, 97, 5999, 5000, 5001, 5002, 5003, 10999, 10000, 10001, 10002, 10003]), (23, [4, 5, 5999, 5000, 5001, 5002, 5003]), (24, [4, 5, 5999, 5000, 5001, 5002, 5003])]⟩
theorem read_none (c : Cfg) : Impl Try.prog 41 [cfgA c, .s ⟨#[]⟩] (.tup [bkO (some 0) [] 0 [] [], .i .i64 11]) := by
  refine impl_of (fn := Try.f41) tbl_ok (by kernel_rfl) (by kernel_rfl) rfl ⟨by simp [Try.f41], by decide⟩ rfl fun W0 => ?_
  repeat' first
    | apply WP.seq
    | (apply WP.region (E := eRead) mixed tbl_ok; conv => whnf)
    | (apply WP.cond; conv => whnf)
    | (apply WP.ret; conv => whnf)
    | (apply reg_and; (· kernel_rfl); conv => whnf)
    | (apply ex_eq; conv => whnf)
    | (apply nodup_and; (· exact of_decide_eq_true (by kernel_rfl)); conv => whnf)
    | (apply And.intro; (· first | with_reducible rfl | exact trivial | exact Or.inl ⟨rfl, rfl⟩ | exact Or.inr rfl | decide | omega | (apply Nat.le_of_ble_eq_true; rfl) | (dsimp only; omega) | (simp only [ints_len, gl_len, mp_len, List.length_cons, List.length_nil, List.length_drop, List.length_take]; omega)); conv => whnf)
    | (apply br_t; conv => whnf)
    | fail
  repeat' first
    | apply True.intro
    | exact Int.NonNeg.mk _
    | (apply Or.inl; rfl)
    | (apply or_row; (· rfl); (· rfl); rfl)
    | (apply And.intro <;> conv => whnf)
    | (apply Nat.le_of_ble_eq_true; rfl)
    | fail
end Go.Proofs.Ytjihjjbieeofdaa.T
namespace Go.Proofs.Ytjihjjbieeofdaa.T
set_option linter.unusedSimpArgs false
set_option linter.unusedVariables false
open Go
set_option linter.unusedVariables false
structure Vw where
  t : List Int
  k : List (List (List Int))
  v : List (List (List Int))
structure VwW (x : Vw) : Prop where
  t : IntsW x.t
  k : SizM x.k
  v : SizM x.v
theorem rdRows2 : Rd Try.prog 97 (fun l : List (List Int) => [rowsA none l]) (fun l => l.length ≤ 140737488351232 ∧ ∀ r ∈ l, r.length ≤ 140737488351232) :=
  rd_map (fun l => l) (fun l => rfl) (fun l h => ⟨by omega, fun x hx => (h.2 x hx).1⟩) (rd_slice (el := rowA none) (B := 24) (sz := 1) (dp := true) Try.underlying97 (by kernel_rfl) (by decide) (by kernel_rfl) rdRow (fun a => .inr rfl) (fun h => by cases h))
theorem rdRows3 : Rd Try.prog 28 (fun l : List (List (List Int)) => [.sl none none 1 true (gl (rowsA none) l)]) SizM :=
  rd_map (fun l => l) (fun l => rfl) (fun l h => ⟨by omega, fun x hx => h.2 x hx⟩) (rd_slice (el := rowsA none) (B := 24) (sz := 1) (dp := true) Try.underlying28 (by kernel_rfl) (by decide) (by kernel_rfl) rdRows2 (fun a => .inr rfl) (fun h => by cases h))
theorem rdCache : Rd Try.prog 32 (fun x : List (List (List Int)) × List (List (List Int)) => [.sl none none 1 true (gl (rowsA none) x.1), .sl none none 1 true (gl (rowsA none) x.2)]) (fun x => SizM x.1 ∧ SizM x.2) :=
  rd_mapR (rd_struct Try.underlying32 (by kernel_rfl) (sg_cons (n := 1) rfl (by kernel_rfl) rdRows3 (sg_one (n := 1) rfl (by kernel_rfl) rdRows3))) (fun x => x) (fun _ => rfl) (fun _ h => h)
end Go.Proofs.Ytjihjjbieeofdaa.T
namespace Go.Proofs.Ytjihjjbieeofdaa.T
set_option linter.unusedSimpArgs false
set_option linter.unusedVariables false
open Go
set_option linter.unusedVariables false
set_option maxHeartbeats 8000000
set_option maxRecDepth 100000
theorem cutR20_small {r : List (List Int)} (h : r.length ≤ 20 ∧ ∀ x ∈ r, x.length ≤ 40) : cutR 20 r = r := by
  unfold cutR
  rw [List.take_of_length_le h.1]
  refine (List.map_congr_left fun x hx => ?_).trans (List.map_id r)
  exact List.take_of_length_le (h.2 x hx)
/-- At most five lists of at most 20 rows of at most 40 numbers. -/
def Sm20 (K : LL) : Prop := K.length ≤ 5 ∧ ∀ r ∈ K, r.length ≤ 20 ∧ ∀ x ∈ r, x.length ≤ 40
theorem cutL20_small {K : LL} (h : Sm20 K) : cutL20 K = K := by
  unfold cutL20
  rw [List.take_of_length_le h.1]
  refine (List.map_congr_left fun x hx => ?_).trans (List.map_id K)
  exact cutR20_small (h.2 x hx)
theorem sm_cutL20 (K : LL) : Sm20 (cutL20 K) := by
  unfold cutL20
  refine ⟨by rw [List.length_map, List.length_take]; omega, fun r hr => ?_⟩
  obtain ⟨r0, _, rfl⟩ := List.mem_map.1 hr
  unfold cutR
  refine ⟨by rw [List.length_map, List.length_take]; omega, fun x hx => ?_⟩
  obtain ⟨x0, _, rfl⟩ := List.mem_map.1 hx
  rw [List.length_take]; omega
structure BkC (b : Bk) : Prop where
  t : b.t.length ≤ 140
  f : IntKind.i64.min ≤ b.f ∧ b.f ≤ IntKind.i64.max
  k : Sm20 b.k
  v : Sm20 b.v
theorem cutP_c {b : Bk} (h : BkW b) : BkC (cutP b) := ⟨by show (b.t.take 140).length ≤ 140; rw [List.length_take]; omega, h.f, sm_cutL20 _, sm_cutL20 _⟩
theorem sm20_siz {K : LL} (h : Sm20 K) : Siz3 K := ⟨by have := h.1; omega, fun r hr => ⟨by have := (h.2 r hr).1; omega, fun x hx => by have := (h.2 r hr).2 x hx; omega⟩⟩
theorem sm20_sizM {K : LL} (h : Sm20 K) : SizM K := ⟨by have := h.1; omega, fun r hr => ⟨by have := (h.2 r hr).1; omega, fun x hx => by have := (h.2 r hr).2 x hx; omega⟩⟩
theorem bkC_s {b : Bk} (h : BkC b) : BkS b := ⟨by have := h.t; omega, h.f, sm20_siz h.k, sm20_siz h.v⟩
/-- What pages make is small. -/
structure JSm (t : List Int) (K V : LL) : Prop where
  tl : t.length ≤ 128
  kl : K.length ≤ 5
  vl : V.length ≤ 5
  k : ∀ r ∈ K, r.length = t.length ∧ ∀ x ∈ r, x.length ≤ 40
  v : ∀ r ∈ V, r.length = t.length ∧ ∀ x ∈ r, x.length ≤ 40
theorem jsm_nil : JSm [] [] [] := ⟨by decide, by decide, by decide, (fun r hr => by cases hr), (fun r hr => by cases hr)⟩
theorem addK_in {K k : LL} {m : Nat} (hK : ∀ r ∈ K, ∀ x ∈ r, x.length ≤ m) (hk : ∀ r ∈ k, ∀ x ∈ r, x.length ≤ m) : ∀ r ∈ addK K k, ∀ x ∈ r, x.length ≤ m := fun r hr x hx => by
  unfold addK at hr
  obtain ⟨j, hj, rfl⟩ := List.mem_map.1 hr
  rw [List.mem_range] at hj
  rcases List.mem_append.1 hx with hx | hx
  · by_cases e : j < K.length
    · exact hK _ (getD_in [] e) x hx
    · rw [List.getD_eq_getElem?_getD, List.getElem?_eq_none (by omega)] at hx; cases hx
  · exact hk _ (getD_in [] hj) x hx
theorem jn_sm {c : Cfg} : ∀ (l : List Bk) (t : List Int) (K V : LL), (∀ b ∈ l, BkC b) → JSm t K V → ((t = [] ∧ K = [] ∧ V = []) ∨ ((K.length : Int) = c.layers ∧ (V.length : Int) = c.layers)) → JSm (jn c l t K V).1 (jn c l t K V).2.1 (jn c l t K V).2.2.1
  | [], t, K, V, _, h, _ => h
  | b :: l, t, K, V, hb, h, hc => by
    by_cases hz : chkB c b.t b.f b.k b.v = 0
    · by_cases hm : b.f = t.length ∧ b.t.take t.length = t
      · have e : jn c (b :: l) t K V = jn c l b.t (addK K b.k) (addK V b.v) := by
          show (if _ then _ else _) = _
          rw [if_pos hz, if_pos hm]
        rw [e]
        obtain ⟨⟨f1, f2, f3, f4, f5, f6⟩, g1, g2⟩ := chkB_zero hz
        obtain ⟨n, hn⟩ : ∃ n : Nat, (b.t.length : Int) - b.f = n := ⟨((b.t.length : Int) - b.f).toNat, by omega⟩
        rw [hn] at g1 g2
        have k1 : ∀ r ∈ b.k, r.length = n := fun r hr => by have := (g1 r hr).1; omega
        have v1 : ∀ r ∈ b.v, r.length = n := fun r hr => by have := (g2 r hr).1; omega
        have hb0 := hb b List.mem_cons_self
        have hKc : K.length = b.k.length ∨ (K = [] ∧ t.length = 0) := by
          rcases hc with ⟨e1, e2, _⟩ | ⟨h1, _⟩
          · exact .inr ⟨e2, by rw [e1]; rfl⟩
          · exact .inl (by omega)
        have hVc : V.length = b.v.length ∨ (V = [] ∧ t.length = 0) := by
          rcases hc with ⟨e1, _, e2⟩ | ⟨_, h1⟩
          · exact .inr ⟨e2, by rw [e1]; rfl⟩
          · exact .inl (by omega)
        have hal : (addK K b.k).length = b.k.length := by unfold addK; exact mp_len _ _
        have hbl : (addK V b.v).length = b.v.length := by unfold addK; exact mp_len _ _
        refine jn_sm l b.t (addK K b.k) (addK V b.v) (fun x hx => hb x (List.mem_cons_of_mem _ hx)) ⟨f4, by rw [hal]; exact hb0.k.1, by rw [hbl]; exact hb0.v.1, fun r hr => ⟨?_, ?_⟩, fun r hr => ⟨?_, ?_⟩⟩ (.inr ⟨by rw [hal]; exact f5, by rw [hbl]; exact f6⟩)
        · have := addK_rows (fun r hr => (h.k r hr).1) k1 hKc r hr
          omega
        · exact addK_in (fun r hr => (h.k r hr).2) (fun r hr => (hb0.k.2 r hr).2) r hr
        · have := addK_rows (fun r hr => (h.v r hr).1) v1 hVc r hr
          omega
        · exact addK_in (fun r hr => (h.v r hr).2) (fun r hr => (hb0.v.2 r hr).2) r hr
      · have e : jn c (b :: l) t K V = ([], [], [], 8) := by
          show (if _ then _ else _) = _
          rw [if_pos hz, if_neg hm]
        rw [e]; exact jsm_nil
    · have e : jn c (b :: l) t K V = ([], [], [], chkB c b.t b.f b.k b.v) := by
        show (if _ then _ else _) = _
        rw [if_neg hz]
      rw [e]; exact jsm_nil
end Go.Proofs.Ytjihjjbieeofdaa.T
namespace Go.Proofs.Ytjihjjbieeofdaa.T
set_option linter.unusedSimpArgs false
set_option linter.unusedVariables false
open Go
set_option linter.unusedVariables false
set_option maxHeartbeats 8000000
set_option maxRecDepth 100000
end Go.Proofs.Ytjihjjbieeofdaa.T
namespace Go.Proofs.Ytjihjjbieeofdaa.T
set_option linter.unusedSimpArgs false
set_option linter.unusedVariables false
open Go
set_option linter.unusedVariables false
set_option maxHeartbeats 8000000
set_option maxRecDepth 100000
end Go.Proofs.Ytjihjjbieeofdaa.T
namespace Go.Proofs.Ytjihjjbieeofdaa.T
set_option linter.unusedSimpArgs false
set_option linter.unusedVariables false
open Go
set_option linter.unusedVariables false
set_option maxHeartbeats 8000000
set_option maxRecDepth 100000
def tk (m : Nat) (K : List (List (List Int))) : List (List (List Int)) := K.map fun r => r.take m
end Go.Proofs.Ytjihjjbieeofdaa.T
namespace Go.Proofs.Ytjihjjbieeofdaa.T
set_option linter.unusedSimpArgs false
set_option linter.unusedVariables false
open Go
set_option linter.unusedVariables false
set_option maxHeartbeats 8000000
set_option maxRecDepth 100000
end Go.Proofs.Ytjihjjbieeofdaa.T
namespace Go.Proofs.Ytjihjjbieeofdaa.T
set_option linter.unusedSimpArgs false
set_option linter.unusedVariables false
open Go
set_option linter.unusedVariables false
set_option maxHeartbeats 8000000
set_option maxRecDepth 100000
end Go.Proofs.Ytjihjjbieeofdaa.T
namespace Go.Proofs.Ytjihjjbieeofdaa.T
set_option linter.unusedSimpArgs false
set_option linter.unusedVariables false
open Go
set_option linter.unusedVariables false
set_option maxHeartbeats 8000000
set_option maxRecDepth 100000
end Go.Proofs.Ytjihjjbieeofdaa.T

