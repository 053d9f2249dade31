/- What functions of the program come to, on trees. No condition but those that the theorems name. -/
import Derived.Test.YtjihjjbieeofdaaPG8
namespace Go.Proofs.Ytjihjjbieeofdaa.T
set_option linter.unusedSimpArgs false
set_option linter.unusedVariables false
open Go
set_option linter.unusedVariables false
set_option maxHeartbeats 8000000
set_option maxRecDepth 100000
def eGreedyAsks : Env := ⟨tbl, [12, 14, 16], [], [], [(0, [1, 2, 3, 4, 5, 6999, 6000, 6001, 6002, 6003, 6004]), (1, [1, 2, 3, 4, 5, 6999, 6000, 6001, 6002, 6003, 6004]), (2, [10])]⟩
theorem greedyasks_law (c : Cfg) (p a : List Int) (most : Int) (l : List Int) (hp : IntsW p) (ha : IntsW a) (hm : IntKind.i64.min ≤ most ∧ most ≤ IntKind.i64.max) (hl : RowW l) : Impl Try.prog 4 [cfgA c, .sl none none 1 false (ints .i64 p), .sl none none 1 false (ints .i64 a), .i .i64 most, rowA none l] (.b true) := by
  have hF1 : ∀ {no : Option Bool}, Impl Try.prog 20 [.sl none no 1 false (ints .i64 p), .i .i64 200] (.sl (some 0) none 1 false (ints .i64 (p.take 200))) := fun {no} => few8_ok 200 hp.1 (by omega)
  have hF2 : ∀ {no : Option Bool}, Impl Try.prog 20 [.sl none no 1 false (ints .i64 a), .i .i64 200] (.sl (some 0) none 1 false (ints .i64 (a.take 200))) := fun {no} => few8_ok 200 ha.1 (by omega)
  have hF3 : ∀ {no : Option Bool}, Impl Try.prog 21 [.sl none no 1 false (ints .i32 l), .i .i64 200] (rowA (some 0) (l.take 200)) := fun {no} => few3_ok 200 hl.1 (by omega)
  have l1 : (p.take 200).length ≤ 200 := by rw [List.length_take]; omega
  have l2 : (a.take 200).length ≤ 200 := by rw [List.length_take]; omega
  have l3 : (l.take 200).length ≤ 200 := by rw [List.length_take]; omega
  have hw : I32s (l.take 200) := i32s_take hl.2 _
  generalize p.take 200 = p1 at *
  generalize a.take 200 = a1 at *
  generalize l.take 200 = m1 at *
  have h1 := fun {np : Option Bool} => asked_ok (np := np) c (p := p1) most (by omega)
  have h2 := fun {np : Option Bool} => rasked_ok (np := np) c (p := p1) most (by omega)
  have h3 := fun {na : Option Bool} => over_ok (na := na) (a := a1) most (by omega)
  have h4 := fun {na : Option Bool} => rover_ok (na := na) (a := a1) most (by omega)
  have h5 := fun {na : Option Bool} => next10_ok (na := na) (l := m1) (by omega) hw
  have h6 := fun {na : Option Bool} => rarg_ok (na := na) (l := m1) (by omega) hw
  generalize asked c.vocab p1 most = k at *
  generalize argN m1 m1.length = q at *
  by_cases ho : ovr a1 most
  · rw [decide_eq_true ho] at h3 h4
    refine impl_of (fn := Try.f4) tbl_ok (by kernel_rfl) (by kernel_rfl) rfl ⟨by simp [Try.f4], by decide⟩ rfl fun W0 => ?_
    repeat' first
      | apply WP.seq
      | (apply WP.region (E := eGreedyAsks) mixed tbl_ok; conv => whnf)
      | (apply WP.ret; conv => whnf)
      | (apply reg_and; (· kernel_rfl); conv => whnf)
      | (apply ex_and; (· with_reducible exact awake10_ok); conv => whnf)
      | (apply ex_and; (· with_reducible exact hF1); conv => whnf)
      | (apply ex_and; (· with_reducible exact hF2); conv => whnf)
      | (apply ex_and; (· with_reducible exact hF3); conv => whnf)
      | (apply ex_and; (· with_reducible exact h1); conv => whnf)
      | (apply ex_and; (· with_reducible exact h2); conv => whnf)
      | (apply ex_and; (· with_reducible exact h3); conv => whnf)
      | (apply ex_and; (· with_reducible exact h4); conv => whnf)
      | (apply ex_and; (· with_reducible exact h5); conv => whnf)
      | (apply ex_and; (· with_reducible exact h6); conv => whnf)
      | (apply ex_eq; conv => whnf)
      | ((with_reducible apply gd_t); conv => whnf)
      | (apply gd_br)
      | (apply And.intro; (· first | with_reducible rfl | exact trivial | exact Or.inl ⟨rfl, rfl⟩ | exact Or.inr rfl | decide | omega | (apply Nat.le_of_ble_eq_true; rfl) | (dsimp only; omega) | (simp only [ints_len, gl_len, mp_len, List.length_cons, List.length_nil, List.length_drop, List.length_take]; omega)); conv => whnf)
      | (apply br_t; conv => whnf)
      | (apply br_yes; (· omega); conv => whnf)
      | fail
    all_goals exact beq_self_eq_true _
  · rw [decide_eq_false ho] at h3 h4
    refine impl_of (fn := Try.f4) tbl_ok (by kernel_rfl) (by kernel_rfl) rfl ⟨by simp [Try.f4], by decide⟩ rfl fun W0 => ?_
    repeat' first
      | apply WP.seq
      | (apply WP.region (E := eGreedyAsks) mixed tbl_ok; conv => whnf)
      | (apply WP.ret; conv => whnf)
      | (apply reg_and; (· kernel_rfl); conv => whnf)
      | (apply ex_and; (· with_reducible exact awake10_ok); conv => whnf)
      | (apply ex_and; (· with_reducible exact hF1); conv => whnf)
      | (apply ex_and; (· with_reducible exact hF2); conv => whnf)
      | (apply ex_and; (· with_reducible exact hF3); conv => whnf)
      | (apply ex_and; (· with_reducible exact h1); conv => whnf)
      | (apply ex_and; (· with_reducible exact h2); conv => whnf)
      | (apply ex_and; (· with_reducible exact h3); conv => whnf)
      | (apply ex_and; (· with_reducible exact h4); conv => whnf)
      | (apply ex_and; (· with_reducible exact h5); conv => whnf)
      | (apply ex_and; (· with_reducible exact h6); conv => whnf)
      | (apply ex_eq; conv => whnf)
      | ((with_reducible apply gd_t); conv => whnf)
      | (apply gd_br)
      | (apply And.intro; (· first | with_reducible rfl | exact trivial | exact Or.inl ⟨rfl, rfl⟩ | exact Or.inr rfl | decide | omega | (apply Nat.le_of_ble_eq_true; rfl) | (dsimp only; omega) | (simp only [ints_len, gl_len, mp_len, List.length_cons, List.length_nil, List.length_drop, List.length_take]; omega)); conv => whnf)
      | (apply br_t; conv => whnf)
      | (apply br_yes; (· omega); conv => whnf)
      | fail
    all_goals exact beq_self_eq_true _
end Go.Proofs.Ytjihjjbieeofdaa.T
