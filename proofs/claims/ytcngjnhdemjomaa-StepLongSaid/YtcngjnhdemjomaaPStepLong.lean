/- What functions of the program come to, on trees. No condition but those that the theorems name. -/
import Derived.Test.YtcngjnhdemjomaaPC10
namespace Go.Proofs.Ytcngjnhdemjomaa.T
set_option linter.unusedSimpArgs false
set_option linter.unusedVariables false
open Go
set_option linter.unusedVariables false
set_option maxHeartbeats 8000000
set_option maxRecDepth 100000
/-- By turns nought and one. -/
def turns (i : Nat) : List Int := mp i fun j => (j : Int) % 2
theorem turns_len (i : Nat) : (turns i).length = i := mp_len _ _
theorem turns_in (i : Nat) : ∀ x ∈ turns i, 0 ≤ x ∧ x < ((2 : Nat) : Int) := fun x hx => by
  obtain ⟨j, _, rfl⟩ := List.mem_map.1 hx
  omega
theorem turns_succ (i : Nat) : turns i ++ [((i % 2 : Nat) : Int)] = turns (i + 1) := by
  unfold turns
  rw [mp_succ, Int.natCast_emod]; rfl
def eStepLong : Env := ⟨tbl, [20], [], [], [(0, [0, 1]), (1, [0, 1, 5, 6999, 6000, 6001, 6002, 6003, 6004]), (2, [1, 5, 6, 7, 6999, 6000, 6001, 6002, 6003, 6004, 7999, 7000, 7001, 7002, 7003, 7004, 7005, 7006, 7007]), (3, [1, 5, 6, 24, 6999, 6000, 6001, 6002, 6003, 6004, 7999, 7000, 7001, 7002, 7003, 7004, 7005, 7006, 7007]), (4, [4]), (5, [1, 5, 6, 30, 6999, 6000, 6001, 6002, 6003, 6004, 7999, 7000, 7001, 7002, 7003, 7004, 7005, 7006, 7007]), (6, [4]), (7, [1, 5, 6, 8, 6999, 6000, 6001, 6002, 6003, 6004, 7999, 7000, 7001, 7002, 7003, 7004, 7005, 7006, 7007, 9999, 9000, 9001, 9002]), (8, [1, 5, 6, 8, 9, 6999, 6000, 6001, 6002, 6003, 6004, 7999, 7000, 7001, 7002, 7003, 7004, 7005, 7006, 7007, 9999, 9000, 9001, 9002]), (9, [1, 5, 6, 8, 9, 35, 6999, 6000, 6001, 6002, 6003, 6004, 7999, 7000, 7001, 7002, 7003, 7004, 7005, 7006, 7007, 9999, 9000, 9001, 9002]), (10, [1, 5, 6, 8, 9, 6999, 6000, 6001, 6002, 6003, 6004, 7999, 7000, 7001, 7002, 7003, 7004, 7005, 7006, 7007, 9999, 9000, 9001, 9002]), (11, [1, 5, 6, 8, 9, 10, 11, 12, 6999, 6000, 6001, 6002, 6003, 6004, 7999, 7000, 7001, 7002, 7003, 7004, 7005, 7006, 7007, 9999, 9000, 9001, 9002, 11999, 11000, 11001, 11002]), (12, [1, 5, 6, 8, 9, 10, 11, 12, 49, 6999, 6000, 6001, 6002, 6003, 6004, 7999, 7000, 7001, 7002, 7003, 7004, 7005, 7006, 7007, 9999, 9000, 9001, 9002, 11999, 11000, 11001, 11002]), (13, [4]), (14, [1, 5, 6, 8, 9, 10, 66, 6999, 6000, 6001, 6002, 6003, 6004, 7999, 7000, 7001, 7002, 7003, 7004, 7005, 7006, 7007, 9999, 9000, 9001, 9002, 11999, 11000, 11001, 11002]), (15, [4]), (16, [1, 5, 6, 8, 9, 6999, 6000, 6001, 6002, 6003, 6004, 7999, 7000, 7001, 7002, 7003, 7004, 7005, 7006, 7007, 9999, 9000, 9001, 9002]), (17, [1, 8, 15, 9999, 9000, 9001, 9002]), (18, [4])]⟩
theorem steplong_law (seed n : Int) (hseed : IntKind.u64.min ≤ seed ∧ seed ≤ IntKind.u64.max) (hn : IntKind.i64.min ≤ n ∧ n ≤ IntKind.i64.max) : Impl Try.prog 9 [.i .u64 seed, .i .i64 n] (.b true) := by
  have hM : Impl Try.prog 25 [.agg [.i .i64 2, .i .i64 1, .i .i64 1, .i .i64 1, .i .i64 1], .i .u64 seed] (.tup [wtsA (some 0) none (sMake seed 2 1 1 1), .i .i64 0]) := make_goodC made_cfg hseed
  have hg : WtsG 2 1 1 1 (sMake seed 2 1 1 1) := make_good (by decide) (by decide) (by decide)
  generalize sMake seed 2 1 1 1 = w at *
  by_cases hok : 1 ≤ n ∧ n ≤ 140
  · obtain ⟨m, rfl⟩ : ∃ m : Nat, n = m := ⟨n.toNat, by omega⟩
    refine impl_of (fn := Try.f9) tbl_ok (by kernel_rfl) (by kernel_rfl) rfl ⟨by simp [Try.f9], by decide⟩ rfl fun W0 => ?_
    repeat' first
      | apply WP.seq
      | (apply WP.region (E := eStepLong) mixed tbl_ok; conv => whnf)
      | (apply WP.cond; conv => whnf)
      | (apply WP.skip; conv => whnf)
      | apply WP.block
      | (rw [fz_blks]; conv => whnf)
      | (apply reg_and; (· kernel_rfl); conv => whnf)
      | (apply ex_and; (· with_reducible exact hM); conv => whnf)
      | (apply ex_eq; conv => whnf)
      | (apply gd_br)
      | (apply And.intro; (· first | with_reducible rfl | exact trivial | exact Or.inl ⟨rfl, rfl⟩ | exact Or.inr rfl | decide | omega | (apply Nat.le_of_ble_eq_true; rfl) | (dsimp only; omega) | (simp only [ints_len, gl_len, mp_len, List.length_cons, List.length_nil, List.length_drop, List.length_take]; omega)); conv => whnf)
      | apply br_not
      | (apply br_t; conv => whnf)
      | (apply br_no; (· omega); conv => whnf)
      | fail
    refine WP.loopM [9, 10, 11, 12, 35, 49, 66, 9000, 9001, 9002, 11999, 11000, 11001, 11002] (fun i : Nat => [(9, .i .i64 i), (9000, .sl (some 0) none 1 false (ints .i64 (turns i))), (9001, rows3W (vK 1 1 1 w (turns i))), (9002, rows3W (vV 1 1 1 w (turns i)))]) (fun i => i ≤ m ∧ i ≤ 128) (fun i => m - i) 0 ?_
    conv => whnf
    refine And.intro (And.intro ?_ ?_) (fun i hi => ?_)
    · first | omega | trivial | skip
    · conv => whnf
      repeat' first
        | apply True.intro
        | (apply ptr_and; (· kernel_rfl); conv => whnf)
        | omega
        | (apply Or.inr; rfl)
        | (apply Or.inl; rfl)
        | (apply or_row; (· rfl); (· rfl); rfl)
        | (apply And.intro <;> conv => whnf)
        | fail
    conv => whnf
    obtain ⟨hi1, hi2⟩ := hi
    by_cases him : i < m
    · by_cases hib : i = 128
      · subst hib
        have hB := fun {n1 n2 n3 : Option Bool} => feed_big (n1 := n1) (n2 := n2) (n3 := n3) (q := ((128 : Nat) : Int) % 2) made_cfg hg (vw_good (D := 1) (H := 1) (s := 1) hg (turns_in 128) (by rw [turns_len]; omega)) (by rw [turns_len]; omega)
        repeat' first
          | apply WP.seq
          | (apply WP.region (E := eStepLong) mixed tbl_ok; conv => whnf)
          | (apply WP.cond; conv => whnf)
          | (apply WP.skip; conv => whnf)
          | (apply WP.ret; conv => whnf)
          | apply WP.block
          | (rw [fz_blks]; conv => whnf)
          | (rw [fz_rowsW]; conv => whnf)
          | (apply reg_and; (· kernel_rfl); conv => whnf)
          | (apply ex_and; (· with_reducible exact hB); conv => whnf)
          | (apply ex_and; (· with_reducible exact awake9_ok); conv => whnf)
          | (apply ex_ilen; conv => whnf)
          | (apply ex_rem; (· omega); conv => whnf)
          | (apply ex_eq; conv => whnf)
          | ((with_reducible apply gd_t); conv => whnf)
          | (apply gd_br)
          | (apply And.intro; (· first | with_reducible rfl | exact trivial | exact Or.inl ⟨rfl, rfl⟩ | exact Or.inr rfl | decide | omega | (apply Nat.le_of_ble_eq_true; rfl) | (dsimp only; omega) | (simp only [ints_len, gl_len, mp_len, List.length_cons, List.length_nil, List.length_drop, List.length_take]; omega)); conv => whnf)
          | (apply br_t; conv => whnf)
          | (apply br_yes; (· omega); conv => whnf)
          | fail
        all_goals rfl
      · have hB : ∀ {n1 n2 n3 : Option Bool}, Impl Try.prog 34 [.agg [.i .i64 2, .i .i64 1, .i .i64 1, .i .i64 1, .i .i64 1], wtsA none none w, .agg [.sl none n1 1 false (ints .i64 (turns i)), .sl none n2 1 true (gl (rowsA none) (vK 1 1 1 w (turns i))), .sl none n3 1 true (gl (rowsA none) (vV 1 1 1 w (turns i)))], .i .i64 ((i : Int) % 2)] (.tup [viewW (turns (i + 1)) (vK 1 1 1 w (turns (i + 1))) (vV 1 1 1 w (turns (i + 1))), rowA (some 0) (sFull 2 1 1 1 w (turns (i + 1))), .i .i64 0]) := fun {n1 n2 n3} => by
          have := feed_ok (n1 := n1) (n2 := n2) (n3 := n3) (q := i % 2) made_cfg hg (turns_in i) (by rw [turns_len]; omega) (by omega)
          rw [turns_succ, Int.natCast_emod] at this
          exact this
        have hlk : (sFull 2 1 1 1 w (turns (i + 1))).length = 2 := by unfold sFull sLikes; rw [sApply_len]
        generalize sFull 2 1 1 1 w (turns (i + 1)) = fu at *
        repeat' first
          | apply WP.seq
          | (apply WP.region (E := eStepLong) mixed tbl_ok; conv => whnf)
          | (apply WP.cond; conv => whnf)
          | (apply WP.skip; conv => whnf)
          | apply WP.block
          | (rw [fz_blks]; conv => whnf)
          | (rw [fz_rowsW]; conv => whnf)
          | (apply reg_and; (· kernel_rfl); conv => whnf)
          | (apply ex_and; (· with_reducible exact hB); conv => whnf)
          | (apply ex_ilen; conv => whnf)
          | (apply ex_i64; (· omega); conv => whnf)
          | (apply ex_rem; (· omega); conv => whnf)
          | (apply ex_eq; conv => whnf)
          | (apply gd_br)
          | (apply And.intro; (· first | with_reducible rfl | exact trivial | exact Or.inl ⟨rfl, rfl⟩ | exact Or.inr rfl | decide | omega | (apply Nat.le_of_ble_eq_true; rfl) | (dsimp only; omega) | (simp only [ints_len, gl_len, mp_len, List.length_cons, List.length_nil, List.length_drop, List.length_take]; omega)); conv => whnf)
          | apply br_not
          | (apply br_t; conv => whnf)
          | (apply br_yes; (· omega); conv => whnf)
          | (apply br_no; (· omega); conv => whnf)
          | fail
        refine Exists.intro (i + 1) (And.intro (And.intro ?_ ?_) ?_)
        · first | omega | skip
        · first | omega | skip
        conv => whnf
        repeat' first
          | apply True.intro
          | (apply ptr_and; (· kernel_rfl); conv => whnf)
          | omega
          | (apply Or.inr; rfl)
          | (apply or_row; (· rfl); (· rfl); rfl)
          | (apply And.intro <;> conv => whnf)
          | fail
    · have e : i = m := by omega
      subst e
      have hml := turns_len i
      have hA : ∀ {nt : Option Bool}, Impl Try.prog 31 [.agg [.i .i64 2, .i .i64 1, .i .i64 1, .i .i64 1, .i .i64 1], wtsA none none w, viewZ, .sl none nt 1 false (List.replicate ((i : Nat) : Int).toNat (zeroE { k := TK.int IntKind.i64, size := 1, bytes := 8, zero := [AV.i IntKind.i64 0], dp := false }))] (.tup [viewA none (List.replicate i 0) (vK 1 1 1 w (List.replicate i 0)) (vV 1 1 1 w (List.replicate i 0)), rowA none (sFull 2 1 1 1 w (List.replicate i 0)), .i .i64 0]) := fun {nt} => by
        have := all_ok (nt := nt) (n1 := some true) (n2 := some true) (n3 := some true) (t := []) (u := List.replicate i 0) made_cfg hg (by simp) (prm_good (by rw [List.length_replicate]; omega) (by rw [List.length_replicate]; omega) fun j hj => by rw [List.length_replicate] at hj; simp [List.getD_eq_getElem?_getD, List.getElem?_replicate, hj]) (by rw [List.length_replicate]; simp; omega)
        rw [List.nil_append] at this
        have e : ints .i64 (List.replicate i 0) = List.replicate i (.i .i64 0) := by simp [ints]
        rw [e] at this
        exact this
      repeat' first
        | apply WP.seq
        | (apply WP.region (E := eStepLong) mixed tbl_ok; conv => whnf)
        | (apply WP.cond; conv => whnf)
        | (apply WP.ret; conv => whnf)
        | (apply WP.exit; conv => whnf)
        | (rw [fz_blks]; conv => whnf)
        | (rw [fz_nil]; conv => whnf)
        | (apply reg_and; (· kernel_rfl); conv => whnf)
        | (apply ex_and; (· with_reducible exact hA); conv => whnf)
        | (apply ex_and; (· with_reducible exact awake9_ok); conv => whnf)
        | (apply ex_ilen; conv => whnf)
        | (apply ex_eq; conv => whnf)
        | ((with_reducible apply gd_t); conv => whnf)
        | (apply gd_br)
        | (apply And.intro; (· first | with_reducible rfl | exact trivial | exact Or.inl ⟨rfl, rfl⟩ | exact Or.inr rfl | decide | omega | (apply Nat.le_of_ble_eq_true; rfl) | (dsimp only; omega) | (simp only [ints_len, gl_len, mp_len, List.length_cons, List.length_nil, List.length_drop, List.length_take]; omega)); conv => whnf)
        | (apply br_yes; (· omega); conv => whnf)
        | (apply br_no; (· omega); conv => whnf)
        | fail
      all_goals rfl
  · refine impl_of (fn := Try.f9) tbl_ok (by kernel_rfl) (by kernel_rfl) rfl ⟨by simp [Try.f9], by decide⟩ rfl fun W0 => ?_
    repeat' first
      | apply WP.seq
      | (apply WP.region (E := eStepLong) mixed tbl_ok; conv => whnf)
      | (apply WP.cond; conv => whnf)
      | (apply WP.skip; conv => whnf)
      | (apply WP.ret; conv => whnf)
      | (rw [fz_blks]; conv => whnf)
      | (apply reg_and; (· kernel_rfl); conv => whnf)
      | (apply ex_and; (· with_reducible exact hM); conv => whnf)
      | (apply ex_and; (· with_reducible exact awake9_ok); conv => whnf)
      | (apply ex_eq; conv => whnf)
      | ((with_reducible apply gd_t); conv => whnf)
      | ((with_reducible apply gd_f); conv => whnf)
      | (apply gd_br)
      | (apply And.intro; (· first | with_reducible rfl | exact trivial | exact Or.inl ⟨rfl, rfl⟩ | exact Or.inr rfl | decide | omega | (apply Nat.le_of_ble_eq_true; rfl) | (dsimp only; omega) | (simp only [ints_len, gl_len, mp_len, List.length_cons, List.length_nil, List.length_drop, List.length_take]; omega)); conv => whnf)
      | apply br_not
      | (apply br_t; conv => whnf)
      | (apply br_yes; (· omega); conv => whnf)
      | (apply br_dec <;> intro hbr <;> (first | rw [decide_eq_true hbr] | rw [decide_eq_false hbr] | skip) <;> conv => whnf)
      | fail
    all_goals omega
end Go.Proofs.Ytcngjnhdemjomaa.T
