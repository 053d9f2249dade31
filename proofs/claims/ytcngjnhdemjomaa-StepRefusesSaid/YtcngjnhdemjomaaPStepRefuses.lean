/- What functions of the program come to, on trees. No condition but those that the theorems name. -/
import Derived.Test.YtcngjnhdemjomaaPC10
namespace Go.Proofs.Ytcngjnhdemjomaa.T
set_option linter.unusedSimpArgs false
set_option linter.unusedVariables false
open Go
set_option linter.unusedVariables false
set_option maxHeartbeats 8000000
set_option maxRecDepth 100000
def eStepRefuses : Env := ⟨tbl, [], [], [], [(0, [1, 2, 3, 4, 5, 6999, 6000, 6001, 6002, 6003, 6004]), (1, [1, 2, 3, 4, 5, 6999, 6000, 6001, 6002, 6003, 6004]), (2, [2, 3, 4, 5, 11, 12, 6999, 6000, 6001, 6002, 6003, 6004, 12999, 12000, 12001, 12002, 12003, 12004, 12005, 12006, 12007]), (3, [2, 3, 4, 5, 11, 50, 6999, 6000, 6001, 6002, 6003, 6004, 12999, 12000, 12001, 12002, 12003, 12004, 12005, 12006, 12007]), (4, [10]), (5, [2, 5, 11, 6999, 6000, 6001, 6002, 6003, 6004, 12999, 12000, 12001, 12002, 12003, 12004, 12005, 12006, 12007]), (6, [13, 14, 15, 14999, 14000, 14001, 14002]), (7, [10])]⟩
theorem steprefuses_law (c : Cfg) (seed : Int) (t : List Int) (a b : Int) (hseed : IntKind.u64.min ≤ seed ∧ seed ≤ IntKind.u64.max) (ht : IntsW t) (ha : IntKind.i64.min ≤ a ∧ a ≤ IntKind.i64.max) (hb : IntKind.i64.min ≤ b ∧ b ≤ IntKind.i64.max) : Impl Try.prog 10 [cfgA c, .i .u64 seed, .sl none none 1 false (ints .i64 t), .i .i64 a, .i .i64 b] (.b true) := by
  have hF : ∀ {no : Option Bool}, Impl Try.prog 16 [.sl none no 1 false (ints .i64 t), .i .i64 8] (.sl (some 0) none 1 false (ints .i64 (t.take 8))) := fun {no} => few8_ok 8 ht.1 (by omega)
  have htl : (t.take 8).length ≤ 8 := by rw [List.length_take]; omega
  generalize t.take 8 = t1 at *
  obtain ⟨sc, hsm, h0⟩ : ∃ (sc : Int), Impl Try.prog 15 [cfgA c] (.i .i64 sc) ∧ (sc = 0 ∨ sc = 1) := by
    have := small_ok c
    by_cases h : small c
    · rw [if_pos h] at this; exact ⟨1, this, .inr rfl⟩
    · rw [if_neg h] at this; exact ⟨0, this, .inl rfl⟩
  by_cases hsh : shp c = 0
  · obtain ⟨V, D, nh, H, L, s, hc⟩ := shp_good hsh
    have hM := make_goodC hc hseed
    have hg : WtsG V D H L (sMake seed V D H L) := make_good (by have := hc.gv; omega) hc.gd.2 hc.gh.2
    generalize sMake seed V D H L = w at *
    by_cases hok : sc ≠ 0 ∧ 0 ≤ a ∧ a < t1.length ∧ (b < 0 ∨ c.vocab ≤ b)
    · obtain ⟨k1, k2, k3, k4⟩ := hok
      obtain ⟨q, rfl⟩ : ∃ q : Nat, a = q := ⟨a.toNat, by omega⟩
      have hp : prm c.vocab (t1.set q b) = 7 := prm_bad (i := q) (by rw [List.length_set]; omega) (by rw [List.length_set]; omega) (by rw [List.length_set]; omega) (by rw [List.getD_eq_getElem?_getD, List.getElem?_set_self (by omega)]; show ¬ (0 ≤ b ∧ b < c.vocab); omega)
      have hA : ∀ {nt : Option Bool}, Impl Try.prog 31 [cfgA c, wtsA none none w, viewZ, .sl none nt 1 false (ints .i64 (t1.set q b))] (.tup [viewW [] [] [], rowA (some 0) [], .i .i64 7]) := fun {nt} => by
        have := all_err (nt := nt) (n1 := some true) (n2 := some true) (n3 := some true) (c := c) (w := w) (t := []) (K := []) (W := []) (u := t1.set q b) (by rw [hp]; decide) (by rw [List.length_set]; omega)
        rwa [hp] at this
      have hst : (ints .i64 t1).set ((q : Nat) : Int).toNat ([AV.i IntKind.i64 b].headD AV.any) = ints .i64 (t1.set q b) := by show (ints .i64 t1).set _ (.i .i64 b) = _; rw [ints_set, Int.toNat_natCast]
      refine impl_of (fn := Try.f10) tbl_ok (by kernel_rfl) (by kernel_rfl) rfl ⟨by simp [Try.f10], by decide⟩ rfl fun W0 => ?_
      repeat' first
        | apply WP.seq
        | (apply WP.region (E := eStepRefuses) mixed tbl_ok; conv => whnf)
        | (apply WP.cond; conv => whnf)
        | (apply WP.skip; conv => whnf)
        | (apply WP.ret; conv => whnf)
        | (rw [fz_blks]; conv => whnf)
        | (rw [fz_nil]; conv => whnf)
        | (rw [hst]; conv => whnf)
        | (apply reg_and; (· kernel_rfl); conv => whnf)
        | (apply ex_and; (· with_reducible exact hF); conv => whnf)
        | (apply ex_and; (· with_reducible exact hM); conv => whnf)
        | (apply ex_and; (· with_reducible exact hsm); conv => whnf)
        | (apply ex_and; (· with_reducible exact hA); conv => whnf)
        | (apply ex_and; (· with_reducible exact awake9_ok); conv => whnf)
        | (apply ex_ilen; conv => whnf)
        | (apply ex_glen; conv => whnf)
        | (apply ex_ints; (· omega); conv => whnf)
        | (apply ex_eq; conv => whnf)
        | ((with_reducible apply gd_t); conv => whnf)
        | ((with_reducible apply gd_f); conv => whnf)
        | (apply gd_br)
        | (apply nd_ints; (· omega); conv => whnf)
        | (apply And.intro; (· first | with_reducible rfl | exact trivial | exact Or.inl ⟨rfl, rfl⟩ | exact Or.inr rfl | decide | omega | (apply Nat.le_of_ble_eq_true; rfl) | (dsimp only; omega) | (simp only [ints_len, gl_len, mp_len, List.length_cons, List.length_nil, List.length_drop, List.length_take]; omega)); conv => whnf)
        | apply br_not
        | (apply br_t; conv => whnf)
        | (apply br_f; conv => whnf)
        | (apply br_no; (· omega); conv => whnf)
        | (apply br_dec <;> intro hbr <;> (first | rw [decide_eq_true hbr] | rw [decide_eq_false hbr] | skip) <;> conv => whnf)
        | fail
      all_goals rfl
    · clear hg
      refine impl_of (fn := Try.f10) tbl_ok (by kernel_rfl) (by kernel_rfl) rfl ⟨by simp [Try.f10], by decide⟩ rfl fun W0 => ?_
      repeat' first
        | apply WP.seq
        | (apply WP.region (E := eStepRefuses) mixed tbl_ok; conv => whnf)
        | (apply WP.cond; conv => whnf)
        | (apply WP.ret; conv => whnf)
        | (apply reg_and; (· kernel_rfl); conv => whnf)
        | (apply ex_and; (· with_reducible exact hF); conv => whnf)
        | (apply ex_and; (· with_reducible exact hM); conv => whnf)
        | (apply ex_and; (· with_reducible exact hsm); conv => whnf)
        | (apply ex_and; (· with_reducible exact awake9_ok); conv => whnf)
        | (apply ex_ilen; conv => whnf)
        | (apply ex_eq; conv => whnf)
        | ((with_reducible apply gd_t); conv => whnf)
        | ((with_reducible apply gd_f); conv => whnf)
        | (apply gd_br)
        | (apply And.intro; (· first | with_reducible rfl | exact trivial | exact Or.inl ⟨rfl, rfl⟩ | exact Or.inr rfl | decide | omega | (apply Nat.le_of_ble_eq_true; rfl) | (dsimp only; omega) | (simp only [ints_len, gl_len, mp_len, List.length_cons, List.length_nil, List.length_drop, List.length_take]; omega)); conv => whnf)
        | apply br_not
        | (apply br_t; conv => whnf)
        | (apply br_yes; (· omega); conv => whnf)
        | (apply br_no; (· omega); conv => whnf)
        | (apply br_dec <;> intro hbr <;> (first | rw [decide_eq_true hbr] | rw [decide_eq_false hbr] | skip) <;> conv => whnf)
        | fail
      all_goals exact absurd ⟨by omega, by omega, by omega, by omega⟩ hok
  · have hM := make_err (c := c) (seed := seed) hsh
    generalize shp c = k at *
    refine impl_of (fn := Try.f10) tbl_ok (by kernel_rfl) (by kernel_rfl) rfl ⟨by simp [Try.f10], by decide⟩ rfl fun W0 => ?_
    repeat' first
      | apply WP.seq
      | (apply WP.region (E := eStepRefuses) mixed tbl_ok; conv => whnf)
      | (apply WP.cond; conv => whnf)
      | (apply WP.ret; conv => whnf)
      | (apply reg_and; (· kernel_rfl); conv => whnf)
      | (apply ex_and; (· with_reducible exact hF); conv => whnf)
      | (apply ex_and; (· with_reducible exact hM); conv => whnf)
      | (apply ex_and; (· with_reducible exact awake9_ok); conv => whnf)
      | (apply ex_eq; conv => whnf)
      | ((with_reducible apply gd_t); conv => whnf)
      | (apply gd_br)
      | (apply And.intro; (· first | with_reducible rfl | exact trivial | exact Or.inl ⟨rfl, rfl⟩ | exact Or.inr rfl | decide | omega | (apply Nat.le_of_ble_eq_true; rfl) | (dsimp only; omega) | (simp only [ints_len, gl_len, mp_len, List.length_cons, List.length_nil, List.length_drop, List.length_take]; omega)); conv => whnf)
      | apply br_not
      | (apply br_t; conv => whnf)
      | (apply br_no; (· omega); conv => whnf)
      | fail
end Go.Proofs.Ytcngjnhdemjomaa.T
