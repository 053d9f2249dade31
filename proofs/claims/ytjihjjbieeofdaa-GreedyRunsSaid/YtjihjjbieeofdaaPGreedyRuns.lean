/- What functions of the program come to, on trees. No condition but those that the theorems name. -/
import Derived.Test.YtjihjjbieeofdaaPG8
namespace Go.Proofs.Ytjihjjbieeofdaa.T
set_option linter.unusedSimpArgs false
set_option linter.unusedVariables false
open Go
set_option linter.unusedVariables false
set_option maxHeartbeats 8000000
set_option maxRecDepth 100000
/-- What a request comes to, whatever it is. -/
theorem run_any {c : Cfg} {w : Wts} {p : List Int} (most : Int) (hi : WtsI w) (hl : w.blocks.length ≤ 5) (hp : p.length ≤ 1000) : ∃ (x : List Int) (e : Int), (∀ {np : Option Bool}, Impl Try.prog 31 [cfgA c, wtsA none none w, .sl none np 1 false (ints .i64 p), .i .i64 most] (.tup [.sl (some 0) none 1 false (ints .i64 x), .i .i64 e])) ∧ ((e ≠ 0 ∧ chkW c w = e ∧ x = []) ∨ (e ≠ 0 ∧ chkW c w = 0 ∧ asked c.vocab p most = e ∧ x = []) ∨ (e = 0 ∧ chkW c w = 0 ∧ asked c.vocab p most = 0 ∧ x.length ≤ 1000 ∧ ∀ {np : Option Bool}, Impl Try.prog 35 [cfgA c, wtsA none none w, .sl none np 1 false (ints .i64 p), .i .i64 most] (.sl (some 0) none 1 false (ints .i64 x)))) := by
  by_cases hk : chkW c w = 0
  · by_cases ha : asked c.vocab p most = 0
    · obtain ⟨V, D, n, H, L, s, hc⟩ := shp_good (chkW_zero hk).1
      have hg := wts_good hc (chkW_zero hk).2 hi
      obtain ⟨_, hm1, hm2⟩ := asked_zero ha
      obtain ⟨k, he⟩ := ends_ex (V := V) (D := D) (H := H) (s := s) (w := w) (p := p) hm1
      refine ⟨ans V D H s w p k, 0, fun {np} => run_ok hc hg ha he, .inr (.inr ⟨rfl, hk, ha, by rw [ans_len]; have := he.le; omega, fun {np} => rrun_ok hc hg ha he⟩)⟩
    · exact ⟨[], _, fun {np} => run_asked most (by omega) (by omega) hk ha, .inr (.inl ⟨ha, hk, rfl, rfl⟩)⟩
  · exact ⟨[], _, fun {np} => run_err most (by omega) hk, .inl ⟨hk, rfl, rfl⟩⟩
def eGreedyRuns : Env := ⟨tbl, [14, 29, 32], [], [], [(0, [2, 3, 4, 5, 5999, 5000, 5001, 5002, 5003, 5004, 6999, 6000, 6001, 6002, 6003, 6004, 6005, 6006, 6007]), (1, [2, 3, 4, 9, 5999, 5000, 5001, 5002, 5003, 5004, 10999, 10000, 10001, 10002, 10003, 10004, 10005, 10006, 10007]), (2, [2, 3, 4, 9, 5999, 5000, 5001, 5002, 5003, 5004, 10999, 10000, 10001, 10002, 10003, 10004, 10005, 10006, 10007]), (3, [2, 3, 4, 9, 18, 5999, 5000, 5001, 5002, 5003, 5004, 10999, 10000, 10001, 10002, 10003, 10004, 10005, 10006, 10007]), (4, [2, 3, 4, 9, 5999, 5000, 5001, 5002, 5003, 5004, 10999, 10000, 10001, 10002, 10003, 10004, 10005, 10006, 10007]), (5, [2, 3, 4, 9, 21, 5999, 5000, 5001, 5002, 5003, 5004, 10999, 10000, 10001, 10002, 10003, 10004, 10005, 10006, 10007]), (6, [2, 3, 4, 9, 5999, 5000, 5001, 5002, 5003, 5004, 10999, 10000, 10001, 10002, 10003, 10004, 10005, 10006, 10007]), (7, [2, 3, 4, 9, 5999, 5000, 5001, 5002, 5003, 5004, 10999, 10000, 10001, 10002, 10003, 10004, 10005, 10006, 10007]), (8, [2, 3, 4, 9, 10, 11, 5999, 5000, 5001, 5002, 5003, 5004, 10999, 10000, 10001, 10002, 10003, 10004, 10005, 10006, 10007]), (9, [2, 3, 4, 9, 10, 11, 12, 5999, 5000, 5001, 5002, 5003, 5004, 10999, 10000, 10001, 10002, 10003, 10004, 10005, 10006, 10007]), (10, [2, 3, 4, 9, 10, 11, 12, 39, 5999, 5000, 5001, 5002, 5003, 5004, 10999, 10000, 10001, 10002, 10003, 10004, 10005, 10006, 10007]), (11, [2, 3, 4, 9, 10, 11, 12, 5999, 5000, 5001, 5002, 5003, 5004, 10999, 10000, 10001, 10002, 10003, 10004, 10005, 10006, 10007]), (12, [2, 3, 4, 9, 10, 12, 50, 5999, 5000, 5001, 5002, 5003, 5004, 10999, 10000, 10001, 10002, 10003, 10004, 10005, 10006, 10007]), (13, [8]), (14, [8])]⟩
theorem greedyruns_law (c : Cfg) (w : Wts) (p : List Int) (most : Int) (hw : WtsW w) (hp : IntsW p) (hm : IntKind.i64.min ≤ most ∧ most ≤ IntKind.i64.max) : Impl Try.prog 5 [cfgA c, wtsA none none w, .sl none none 1 false (ints .i64 p), .i .i64 most] (.b true) := by
  have hT := told_ok hw.s
  have hi := cutW_i hw.i
  have hs := cutW_s w
  have hl5 := cutW_l w
  have hO := of6_ok hs (by omega)
  rw [cutW_cut] at hO
  generalize cutW 100 5 w = w1 at *
  have hF : ∀ {no : Option Bool}, Impl Try.prog 20 [.sl none no 1 false (ints .i64 p), .i .i64 8] (.sl (some 0) none 1 false (ints .i64 (p.take 8))) := fun {no} => few8_ok 8 hp.1 (by omega)
  have l1 : (p.take 8).length ≤ 8 := by rw [List.length_take]; omega
  generalize p.take 8 = p1 at *
  have hF2 : ∀ {no : Option Bool}, Impl Try.prog 20 [.sl none no 1 false (ints .i64 p1), .i .i64 2] (.sl (some 0) none 1 false (ints .i64 (p1.take 2))) := fun {no} => few8_ok 2 (by omega) (by omega)
  have l2 : (p1.take 2).length ≤ 2 := by rw [List.length_take]; omega
  generalize p1.take 2 = p2 at *
  have hsm := small_ok c
  have hrc := rcheck6_ok c w1 (by omega)
  obtain ⟨m1, hm1⟩ : ∃ m1 : Int, (6 < most ∧ m1 = 6) ∨ (most ≤ 6 ∧ m1 = most) := by
    by_cases h : 6 < most
    · exact ⟨6, .inl ⟨h, rfl⟩⟩
    · exact ⟨most, .inr ⟨by omega, rfl⟩⟩
  obtain ⟨p3, m2, hpm⟩ : ∃ (p3 : List Int) (m2 : Int), (small c ∧ p3 = p1 ∧ m2 = m1) ∨ (¬ small c ∧ p3 = p2 ∧ m2 = if 1 < m1 then 1 else m1) := by
    by_cases h : small c
    · exact ⟨p1, m1, .inl ⟨h, rfl, rfl⟩⟩
    · exact ⟨p2, _, .inr ⟨h, rfl, rfl⟩⟩
  have l3 : p3.length ≤ 8 := by rcases hpm with ⟨_, rfl, _⟩ | ⟨_, rfl, _⟩ <;> omega
  obtain ⟨x, e, hR, hx⟩ := run_any (c := c) (w := w1) (p := p3) m2 hi hl5 (by omega)
  have hA := fun {np : Option Bool} => rasked_ok (np := np) c (p := p3) m2 (by omega)
  clear hs hw hp hi
  rcases hm1 with ⟨hm1, rfl⟩ | ⟨hm1, rfl⟩
  all_goals
    rcases hpm with ⟨hsc, rfl, rfl⟩ | ⟨hsc, rfl, rfl⟩
    · rw [if_pos hsc] at hsm
      rcases hx with ⟨he, hk, rfl⟩ | ⟨he, hk, ha, rfl⟩ | ⟨rfl, hk, ha, hxl, hRR⟩
      · rw [hk] at hrc
        refine impl_of (fn := Try.f5) tbl_ok (by kernel_rfl) (by kernel_rfl) rfl ⟨by simp [Try.f5], by decide⟩ rfl fun W0 => ?_
        repeat' first
          | apply WP.seq
          | (apply WP.region (E := eGreedyRuns) mixed tbl_ok; conv => whnf)
          | (apply WP.cond; conv => whnf)
          | (apply WP.skip; conv => whnf)
          | (apply WP.ret; conv => whnf)
          | (rw [fz_blks]; conv => whnf)
          | (apply reg_and; (· kernel_rfl); conv => whnf)
          | (apply ex_and; (· with_reducible exact awake10_ok); conv => whnf)
          | (apply ex_and; (· with_reducible exact hT); conv => whnf)
          | (apply ex_and; (· with_reducible exact hF); conv => whnf)
          | (apply ex_and; (· with_reducible exact hsm); conv => whnf)
          | (apply ex_and; (· with_reducible exact hO); conv => whnf)
          | (apply ex_and; (· with_reducible exact hR); conv => whnf)
          | (apply ex_and; (· with_reducible exact hrc); conv => whnf)
          | (apply ex_ilen; conv => whnf)
          | (apply ex_eq; conv => whnf)
          | ((with_reducible apply gd_nt); conv => whnf)
          | (apply gd_br)
          | (apply And.intro; (· first | with_reducible rfl | exact trivial | exact Or.inl ⟨rfl, rfl⟩ | exact Or.inr rfl | decide | omega | (apply Nat.le_of_ble_eq_true; rfl) | (dsimp only; omega) | (simp only [ints_len, gl_len, mp_len, List.length_cons, List.length_nil, List.length_drop, List.length_take]; omega)); conv => whnf)
          | apply br_not
          | (apply br_t; conv => whnf)
          | (apply br_f; conv => whnf)
          | (apply br_yes; (· omega); conv => whnf)
          | (apply br_no; (· omega); conv => whnf)
          | fail
        all_goals first | rfl | omega
      · rw [hk] at hrc
        rw [ha] at hA
        refine impl_of (fn := Try.f5) tbl_ok (by kernel_rfl) (by kernel_rfl) rfl ⟨by simp [Try.f5], by decide⟩ rfl fun W0 => ?_
        repeat' first
          | apply WP.seq
          | (apply WP.region (E := eGreedyRuns) mixed tbl_ok; conv => whnf)
          | (apply WP.cond; conv => whnf)
          | (apply WP.skip; conv => whnf)
          | (apply WP.ret; conv => whnf)
          | (rw [fz_blks]; conv => whnf)
          | (apply reg_and; (· kernel_rfl); conv => whnf)
          | (apply ex_and; (· with_reducible exact awake10_ok); conv => whnf)
          | (apply ex_and; (· with_reducible exact hT); conv => whnf)
          | (apply ex_and; (· with_reducible exact hF); conv => whnf)
          | (apply ex_and; (· with_reducible exact hsm); conv => whnf)
          | (apply ex_and; (· with_reducible exact hO); conv => whnf)
          | (apply ex_and; (· with_reducible exact hR); conv => whnf)
          | (apply ex_and; (· with_reducible exact hrc); conv => whnf)
          | (apply ex_and; (· with_reducible exact hA); conv => whnf)
          | (apply ex_ilen; conv => whnf)
          | (apply ex_eq; conv => whnf)
          | ((with_reducible apply gd_nt); conv => whnf)
          | (apply gd_br)
          | (apply And.intro; (· first | with_reducible rfl | exact trivial | exact Or.inl ⟨rfl, rfl⟩ | exact Or.inr rfl | decide | omega | (apply Nat.le_of_ble_eq_true; rfl) | (dsimp only; omega) | (simp only [ints_len, gl_len, mp_len, List.length_cons, List.length_nil, List.length_drop, List.length_take]; omega)); conv => whnf)
          | apply br_not
          | (apply br_t; conv => whnf)
          | (apply br_f; conv => whnf)
          | (apply br_yes; (· omega); conv => whnf)
          | (apply br_no; (· omega); conv => whnf)
          | fail
        all_goals first | rfl | omega
      · rw [hk] at hrc
        rw [ha] at hA
        have hSm := fun {n1 n2 : Option Bool} => same10_ok (n1 := n1) (n2 := n2) (a := x) (by omega)
        refine impl_of (fn := Try.f5) tbl_ok (by kernel_rfl) (by kernel_rfl) rfl ⟨by simp [Try.f5], by decide⟩ rfl fun W0 => ?_
        repeat' first
          | apply WP.seq
          | (apply WP.region (E := eGreedyRuns) mixed tbl_ok; conv => whnf)
          | (apply WP.cond; conv => whnf)
          | (apply WP.skip; conv => whnf)
          | (apply WP.ret; conv => whnf)
          | (rw [fz_blks]; conv => whnf)
          | (apply reg_and; (· kernel_rfl); conv => whnf)
          | (apply ex_and; (· with_reducible exact awake10_ok); conv => whnf)
          | (apply ex_and; (· with_reducible exact hT); conv => whnf)
          | (apply ex_and; (· with_reducible exact hF); conv => whnf)
          | (apply ex_and; (· with_reducible exact hsm); conv => whnf)
          | (apply ex_and; (· with_reducible exact hO); conv => whnf)
          | (apply ex_and; (· with_reducible exact hR); conv => whnf)
          | (apply ex_and; (· with_reducible exact hrc); conv => whnf)
          | (apply ex_and; (· with_reducible exact hA); conv => whnf)
          | (apply ex_and; (· with_reducible exact hRR); conv => whnf)
          | (apply ex_and; (· with_reducible exact hSm); conv => whnf)
          | (apply ex_eq; conv => whnf)
          | ((with_reducible apply gd_f); conv => whnf)
          | ((with_reducible apply gd_nt); conv => whnf)
          | (apply gd_br)
          | (apply And.intro; (· first | with_reducible rfl | exact trivial | exact Or.inl ⟨rfl, rfl⟩ | exact Or.inr rfl | decide | omega | (apply Nat.le_of_ble_eq_true; rfl) | (dsimp only; omega) | (simp only [ints_len, gl_len, mp_len, List.length_cons, List.length_nil, List.length_drop, List.length_take]; omega)); conv => whnf)
          | apply br_not
          | (apply br_t; conv => whnf)
          | (apply br_f; conv => whnf)
          | (apply br_yes; (· omega); conv => whnf)
          | (apply br_no; (· omega); conv => whnf)
          | fail
    · rw [if_neg hsc] at hsm
      rcases hx with ⟨he, hk, rfl⟩ | ⟨he, hk, ha, rfl⟩ | ⟨rfl, hk, ha, hxl, hRR⟩
      · rw [hk] at hrc
        refine impl_of (fn := Try.f5) tbl_ok (by kernel_rfl) (by kernel_rfl) rfl ⟨by simp [Try.f5], by decide⟩ rfl fun W0 => ?_
        repeat' first
          | apply WP.seq
          | (apply WP.region (E := eGreedyRuns) mixed tbl_ok; conv => whnf)
          | (apply WP.cond; conv => whnf)
          | (apply WP.skip; conv => whnf)
          | (apply WP.ret; conv => whnf)
          | (rw [fz_blks]; conv => whnf)
          | (apply reg_and; (· kernel_rfl); conv => whnf)
          | (apply ex_and; (· with_reducible exact awake10_ok); conv => whnf)
          | (apply ex_and; (· with_reducible exact hT); conv => whnf)
          | (apply ex_and; (· with_reducible exact hF); conv => whnf)
          | (apply ex_and; (· with_reducible exact hF2); conv => whnf)
          | (apply ex_and; (· with_reducible exact hsm); conv => whnf)
          | (apply ex_and; (· with_reducible exact hO); conv => whnf)
          | (apply ex_and; (· with_reducible exact hR); conv => whnf)
          | (apply ex_and; (· with_reducible exact hrc); conv => whnf)
          | (apply ex_ilen; conv => whnf)
          | (apply ex_eq; conv => whnf)
          | ((with_reducible apply gd_nt); conv => whnf)
          | (apply gd_br)
          | (apply And.intro; (· first | with_reducible rfl | exact trivial | exact Or.inl ⟨rfl, rfl⟩ | exact Or.inr rfl | decide | omega | (apply Nat.le_of_ble_eq_true; rfl) | (dsimp only; omega) | (simp only [ints_len, gl_len, mp_len, List.length_cons, List.length_nil, List.length_drop, List.length_take]; omega)); conv => whnf)
          | apply br_not
          | (apply br_t; conv => whnf)
          | (apply br_yes; (· omega); conv => whnf)
          | (apply br_no; (· omega); conv => whnf)
          | fail
        all_goals first | rfl | omega
      · rw [hk] at hrc
        rw [ha] at hA
        refine impl_of (fn := Try.f5) tbl_ok (by kernel_rfl) (by kernel_rfl) rfl ⟨by simp [Try.f5], by decide⟩ rfl fun W0 => ?_
        repeat' first
          | apply WP.seq
          | (apply WP.region (E := eGreedyRuns) mixed tbl_ok; conv => whnf)
          | (apply WP.cond; conv => whnf)
          | (apply WP.skip; conv => whnf)
          | (apply WP.ret; conv => whnf)
          | (rw [fz_blks]; conv => whnf)
          | (apply reg_and; (· kernel_rfl); conv => whnf)
          | (apply ex_and; (· with_reducible exact awake10_ok); conv => whnf)
          | (apply ex_and; (· with_reducible exact hT); conv => whnf)
          | (apply ex_and; (· with_reducible exact hF); conv => whnf)
          | (apply ex_and; (· with_reducible exact hF2); conv => whnf)
          | (apply ex_and; (· with_reducible exact hsm); conv => whnf)
          | (apply ex_and; (· with_reducible exact hO); conv => whnf)
          | (apply ex_and; (· with_reducible exact hR); conv => whnf)
          | (apply ex_and; (· with_reducible exact hrc); conv => whnf)
          | (apply ex_and; (· with_reducible exact hA); conv => whnf)
          | (apply ex_ilen; conv => whnf)
          | (apply ex_eq; conv => whnf)
          | ((with_reducible apply gd_nt); conv => whnf)
          | (apply gd_br)
          | (apply And.intro; (· first | with_reducible rfl | exact trivial | exact Or.inl ⟨rfl, rfl⟩ | exact Or.inr rfl | decide | omega | (apply Nat.le_of_ble_eq_true; rfl) | (dsimp only; omega) | (simp only [ints_len, gl_len, mp_len, List.length_cons, List.length_nil, List.length_drop, List.length_take]; omega)); conv => whnf)
          | apply br_not
          | (apply br_t; conv => whnf)
          | (apply br_yes; (· omega); conv => whnf)
          | (apply br_no; (· omega); conv => whnf)
          | fail
        all_goals first | rfl | omega
      · rw [hk] at hrc
        rw [ha] at hA
        have hSm := fun {n1 n2 : Option Bool} => same10_ok (n1 := n1) (n2 := n2) (a := x) (by omega)
        refine impl_of (fn := Try.f5) tbl_ok (by kernel_rfl) (by kernel_rfl) rfl ⟨by simp [Try.f5], by decide⟩ rfl fun W0 => ?_
        repeat' first
          | apply WP.seq
          | (apply WP.region (E := eGreedyRuns) mixed tbl_ok; conv => whnf)
          | (apply WP.cond; conv => whnf)
          | (apply WP.skip; conv => whnf)
          | (apply WP.ret; conv => whnf)
          | (rw [fz_blks]; conv => whnf)
          | (apply reg_and; (· kernel_rfl); conv => whnf)
          | (apply ex_and; (· with_reducible exact awake10_ok); conv => whnf)
          | (apply ex_and; (· with_reducible exact hT); conv => whnf)
          | (apply ex_and; (· with_reducible exact hF); conv => whnf)
          | (apply ex_and; (· with_reducible exact hF2); conv => whnf)
          | (apply ex_and; (· with_reducible exact hsm); conv => whnf)
          | (apply ex_and; (· with_reducible exact hO); conv => whnf)
          | (apply ex_and; (· with_reducible exact hR); conv => whnf)
          | (apply ex_and; (· with_reducible exact hrc); conv => whnf)
          | (apply ex_and; (· with_reducible exact hA); conv => whnf)
          | (apply ex_and; (· with_reducible exact hRR); conv => whnf)
          | (apply ex_and; (· with_reducible exact hSm); conv => whnf)
          | (apply ex_eq; conv => whnf)
          | ((with_reducible apply gd_f); conv => whnf)
          | ((with_reducible apply gd_nt); conv => whnf)
          | (apply gd_br)
          | (apply And.intro; (· first | with_reducible rfl | exact trivial | exact Or.inl ⟨rfl, rfl⟩ | exact Or.inr rfl | decide | omega | (apply Nat.le_of_ble_eq_true; rfl) | (dsimp only; omega) | (simp only [ints_len, gl_len, mp_len, List.length_cons, List.length_nil, List.length_drop, List.length_take]; omega)); conv => whnf)
          | apply br_not
          | (apply br_t; conv => whnf)
          | (apply br_yes; (· omega); conv => whnf)
          | (apply br_no; (· omega); conv => whnf)
          | fail
end Go.Proofs.Ytjihjjbieeofdaa.T
