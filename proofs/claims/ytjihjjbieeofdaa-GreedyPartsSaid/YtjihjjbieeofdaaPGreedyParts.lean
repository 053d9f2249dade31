/- What functions of the program come to, on trees. No condition but those that the theorems name. -/
import Derived.Test.YtjihjjbieeofdaaPG8
namespace Go.Proofs.Ytjihjjbieeofdaa.T
set_option linter.unusedSimpArgs false
set_option linter.unusedVariables false
open Go
set_option linter.unusedVariables false
set_option maxHeartbeats 8000000
set_option maxRecDepth 100000
theorem ints_app2 (k : IntKind) (a b : List Int) : ints k a ++ ints k b = ints k (a ++ b) := by simp [ints]
def eGreedyParts : Env := ⟨tbl, [44, 102, 133], [], [], [(0, [1, 2, 3, 4, 5, 6999, 6000, 6001, 6002, 6003, 6004]), (1, [1, 2, 3, 4, 5, 6999, 6000, 6001, 6002, 6003, 6004]), (2, [2, 3, 4, 5, 11, 12, 6999, 6000, 6001, 6002, 6003, 6004, 12999, 12000, 12001, 12002, 12003, 12004, 12005, 12006, 12007]), (3, [2, 3, 4, 5, 11, 37, 6999, 6000, 6001, 6002, 6003, 6004, 12999, 12000, 12001, 12002, 12003, 12004, 12005, 12006, 12007]), (4, [10]), (5, [2, 3, 4, 5, 11, 13, 14, 6999, 6000, 6001, 6002, 6003, 6004, 12999, 12000, 12001, 12002, 12003, 12004, 12005, 12006, 12007]), (6, [2, 3, 4, 5, 11, 13, 48, 6999, 6000, 6001, 6002, 6003, 6004, 12999, 12000, 12001, 12002, 12003, 12004, 12005, 12006, 12007]), (7, [10]), (8, [2, 3, 4, 5, 11, 13, 79, 6999, 6000, 6001, 6002, 6003, 6004, 12999, 12000, 12001, 12002, 12003, 12004, 12005, 12006, 12007]), (9, [10]), (10, [2, 3, 4, 5, 11, 13, 15, 16, 6999, 6000, 6001, 6002, 6003, 6004, 12999, 12000, 12001, 12002, 12003, 12004, 12005, 12006, 12007]), (11, [2, 3, 4, 5, 11, 13, 114, 6999, 6000, 6001, 6002, 6003, 6004, 12999, 12000, 12001, 12002, 12003, 12004, 12005, 12006, 12007]), (12, [10]), (13, [2, 3, 4, 5, 11, 13, 118, 6999, 6000, 6001, 6002, 6003, 6004, 12999, 12000, 12001, 12002, 12003, 12004, 12005, 12006, 12007]), (14, [10]), (15, [4, 13, 17, 18]), (16, [10])]⟩
theorem greedyparts_law (c : Cfg) (seed : Int) (p : List Int) (most n : Int) (hseed : IntKind.u64.min ≤ seed ∧ seed ≤ IntKind.u64.max) (hp : IntsW p) (hm : IntKind.i64.min ≤ most ∧ most ≤ IntKind.i64.max) (hn : IntKind.i64.min ≤ n ∧ n ≤ IntKind.i64.max) : Impl Try.prog 6 [cfgA c, .i .u64 seed, .sl none none 1 false (ints .i64 p), .i .i64 most, .i .i64 n] (.b true) := by
  have hF : ∀ {no : Option Bool}, Impl Try.prog 20 [.sl none no 1 false (ints .i64 p), .i .i64 8] (.sl (some 0) none 1 false (ints .i64 (p.take 8))) := fun {no} => few8_ok 8 hp.1 (by omega)
  have hpl : (p.take 8).length ≤ 8 := by rw [List.length_take]; omega
  generalize p.take 8 = p1 at *
  obtain ⟨sc, hsm, h0⟩ : ∃ (sc : Int), Impl Try.prog 30 [cfgA c] (.i .i64 sc) ∧ (sc = 0 ∨ sc = 1) := by
    have := small_ok c
    by_cases h : small c
    · rw [if_pos h] at this; exact ⟨1, this, .inr rfl⟩
    · rw [if_neg h] at this; exact ⟨0, this, .inl rfl⟩
  by_cases hsh : shp c = 0
  · obtain ⟨V, D, nh, H, L, s, hc⟩ := shp_good hsh
    have hM := make_goodC hc hseed
    have hg : WtsG V D H L (sMake seed V D H L) := make_good (by have := hc.gv; omega) hc.gd.2 hc.gh.2
    generalize sMake seed V D H L = w at *
    have hlay := hg.layers
    have hcl := hc.gl
    by_cases hs0 : sc = 0 ∨ 10 < most
    · clear hg
      refine impl_of (fn := Try.f6) tbl_ok (by kernel_rfl) (by kernel_rfl) rfl ⟨by simp [Try.f6], by decide⟩ rfl fun W0 => ?_
      repeat' first
        | apply WP.seq
        | (apply WP.region (E := eGreedyParts) mixed tbl_ok; conv => whnf)
        | (apply WP.cond; conv => whnf)
        | (apply WP.ret; conv => whnf)
        | (apply reg_and; (· kernel_rfl); conv => whnf)
        | (apply ex_and; (· with_reducible exact hF); conv => whnf)
        | (apply ex_and; (· with_reducible exact hM); conv => whnf)
        | (apply ex_and; (· with_reducible exact hsm); conv => whnf)
        | (apply ex_and; (· with_reducible exact awake10_ok); conv => whnf)
        | (apply ex_eq; conv => whnf)
        | (apply gd_br)
        | (apply And.intro; (· first | with_reducible rfl | exact trivial | exact Or.inl ⟨rfl, rfl⟩ | exact Or.inr rfl | decide | omega | (apply Nat.le_of_ble_eq_true; rfl) | (dsimp only; omega) | (simp only [ints_len, gl_len, mp_len, List.length_cons, List.length_nil, List.length_drop, List.length_take]; omega)); conv => whnf)
        | apply br_not
        | (apply br_t; conv => whnf)
        | (apply br_yes; (· omega); conv => whnf)
        | (apply br_no; (· omega); conv => whnf)
        | (apply br_dec <;> intro hbr <;> (first | rw [decide_eq_true hbr] | rw [decide_eq_false hbr] | skip) <;> conv => whnf)
        | fail
      all_goals omega
    have hs1 : sc = 1 := by omega
    subst hs1
    by_cases ha : asked c.vocab p1 most = 0
    · obtain ⟨hp0, hm1, hm2⟩ := asked_zero ha
      obtain ⟨p3, p4, p5⟩ := prm_zero hp0
      obtain ⟨k, he⟩ := ends_ex (V := V) (D := D) (H := H) (s := s) (w := w) (p := p1) hm1
      have hR := fun {np : Option Bool} => run_ok (np := np) hc hg ha he
      have hk1 := he.pos
      have hk2 := he.le
      have hal := ans_len V D H s w p1 k
      have hO : ∀ {na : Option Bool}, Impl Try.prog 25 [.sl none na 1 false (ints .i64 (ans V D H s w p1 k)), .i .i64 most] (.b true) := fun {na} => by
        have := over_ok (na := na) (a := ans V D H s w p1 k) most (by omega)
        rwa [decide_eq_true he.fin] at this
      by_cases hq : n < 1 ∨ (k : Int) < n
      · clear hg he
        generalize ans V D H s w p1 k = a at *
        refine impl_of (fn := Try.f6) tbl_ok (by kernel_rfl) (by kernel_rfl) rfl ⟨by simp [Try.f6], by decide⟩ rfl fun W0 => ?_
        repeat' first
          | apply WP.seq
          | (apply WP.region (E := eGreedyParts) mixed tbl_ok; conv => whnf)
          | (apply WP.cond; conv => whnf)
          | (apply WP.skip; conv => whnf)
          | (apply WP.ret; conv => whnf)
          | (rw [fz_blks]; conv => whnf)
          | (apply reg_and; (· kernel_rfl); conv => whnf)
          | (apply ex_and; (· with_reducible exact hF); conv => whnf)
          | (apply ex_and; (· with_reducible exact hM); conv => whnf)
          | (apply ex_and; (· with_reducible exact hsm); conv => whnf)
          | (apply ex_and; (· with_reducible exact hR); conv => whnf)
          | (apply ex_and; (· with_reducible exact hO); conv => whnf)
          | (apply ex_and; (· with_reducible exact awake10_ok); conv => whnf)
          | (apply ex_ilen; conv => whnf)
          | (apply ex_eq; conv => whnf)
          | ((with_reducible apply gd_t); conv => whnf)
          | ((with_reducible apply gd_f); conv => whnf)
          | ((with_reducible apply gd_nt); conv => whnf)
          | (apply gd_br)
          | (apply And.intro; (· first | with_reducible rfl | exact trivial | exact Or.inl ⟨rfl, rfl⟩ | exact Or.inr rfl | decide | omega | (apply Nat.le_of_ble_eq_true; rfl) | (dsimp only; omega) | (simp only [ints_len, gl_len, mp_len, List.length_cons, List.length_nil, List.length_drop, List.length_take]; omega)); conv => whnf)
          | apply br_not
          | (apply br_t; conv => whnf)
          | (apply br_f; conv => whnf)
          | (apply br_yes; (· omega); conv => whnf)
          | (apply br_no; (· omega); conv => whnf)
          | (apply br_dec <;> intro hbr <;> (first | rw [decide_eq_true hbr] | rw [decide_eq_false hbr] | skip) <;> conv => whnf)
          | fail
        all_goals first | omega | exact decide_eq_true (by omega)
      · obtain ⟨q, rfl⟩ : ∃ q : Nat, n = q := ⟨n.toNat, by omega⟩
        have hq1 : asked c.vocab p1 q = 0 := by
          unfold asked
          rw [hp0, if_neg (by omega), if_neg (by omega), if_neg (by omega)]
        have hR2 := fun {np : Option Bool} => run_ok (np := np) hc hg hq1 (ends_less he (show 1 ≤ q by omega) (by omega))
        have hS1 := fun {n1 n2 : Option Bool} => same10_ok (n1 := n1) (n2 := n2) (a := ans V D H s w p1 q) (by rw [ans_len]; omega)
        have hcut : ((ans V D H s w p1 k).take ((q : Nat) : Int).toNat).drop (Int.toNat 0) = ans V D H s w p1 q := by rw [Int.toNat_natCast, ans_take (by omega)]; rfl
        have hql := ans_len V D H s w p1 q
        by_cases hqk : q = k
        · clear hg he
          generalize ans V D H s w p1 q = a2 at *
          generalize ans V D H s w p1 k = a at *
          refine impl_of (fn := Try.f6) tbl_ok (by kernel_rfl) (by kernel_rfl) rfl ⟨by simp [Try.f6], by decide⟩ rfl fun W0 => ?_
          repeat' first
            | apply WP.seq
            | (apply WP.region (E := eGreedyParts) mixed tbl_ok; conv => whnf)
            | (apply WP.cond; conv => whnf)
            | (apply WP.skip; conv => whnf)
            | (apply WP.ret; conv => whnf)
            | (rw [fz_blks]; conv => whnf)
            | (rw [ints_cut, hcut]; conv => whnf)
            | (apply reg_and; (· kernel_rfl); conv => whnf)
            | (apply ex_and; (· with_reducible exact hF); conv => whnf)
            | (apply ex_and; (· with_reducible exact hM); conv => whnf)
            | (apply ex_and; (· with_reducible exact hsm); conv => whnf)
            | (apply ex_and; (· with_reducible exact hR); conv => whnf)
            | (apply ex_and; (· with_reducible exact hO); conv => whnf)
            | (apply ex_and; (· with_reducible exact hR2); conv => whnf)
            | (apply ex_and; (· with_reducible exact hS1); conv => whnf)
            | (apply ex_and; (· with_reducible exact awake10_ok); conv => whnf)
            | (apply ex_ilen; conv => whnf)
            | (apply ex_eq; conv => whnf)
            | ((with_reducible apply gd_nt); conv => whnf)
            | (apply gd_br)
            | (apply And.intro; (· first | with_reducible rfl | exact trivial | exact Or.inl ⟨rfl, rfl⟩ | exact Or.inr rfl | decide | omega | (apply Nat.le_of_ble_eq_true; rfl) | (dsimp only; omega) | (simp only [ints_len, gl_len, mp_len, List.length_cons, List.length_nil, List.length_drop, List.length_take]; omega)); conv => whnf)
            | apply br_not
            | (apply br_t; conv => whnf)
            | (apply br_f; conv => whnf)
            | (apply br_yes; (· omega); conv => whnf)
            | (apply br_no; (· omega); conv => whnf)
            | fail
        · have hpv : ∀ x ∈ p1 ++ ans V D H s w p1 q, 0 ≤ x ∧ x < c.vocab := fun x hx => by
            rcases List.mem_append.1 hx with hx | hx
            · exact p5 x hx
            · have := ans_in (by have := hc.gv; omega) q x hx; have := hc.gv; omega
          have hpl2 : (p1 ++ ans V D H s w p1 q).length = p1.length + q := by rw [List.length_append, ans_len]
          have hq3 : asked c.vocab (p1 ++ ans V D H s w p1 q) (most - q) = 0 := by
            unfold asked
            rw [prm_good (by omega) (by omega) fun j hj => hpv _ (getD_mem hj 0), if_neg (by omega), if_neg (by omega), if_neg (by omega)]
          have hR3 := fun {np : Option Bool} => run_ok (np := np) hc hg hq3 (ends_rest he (show 1 ≤ q by omega) (by omega))
          have hdl : (ans V D H s w p1 k).drop q = ans V D H s w (p1 ++ ans V D H s w p1 q) (k - q) := by
            have := ans_add (V := V) (D := D) (H := H) (s := s) (w := w) (p := p1) q (k - q)
            rw [show q + (k - q) = k by omega] at this
            rw [this, List.drop_left' (ans_len _ _ _ _ _ _ _)]
          have hcut2 : ((ans V D H s w p1 k).take (((ints .i64 (ans V D H s w p1 k)).length : Nat) : Int).toNat).drop ((q : Nat) : Int).toNat = ans V D H s w (p1 ++ ans V D H s w p1 q) (k - q) := by rw [ints_len, Int.toNat_natCast, Int.toNat_natCast, List.take_length, hdl]
          have hS2 := fun {n1 n2 : Option Bool} => same10_ok (n1 := n1) (n2 := n2) (a := ans V D H s w (p1 ++ ans V D H s w p1 q) (k - q)) (by rw [ans_len]; omega)
          have hnil : ([] : List AV) ++ ints .i64 p1 = ints .i64 p1 := rfl
          have happ := ints_app2 .i64 p1 (ans V D H s w p1 q)
          clear hg he hdl hpv
          generalize ans V D H s w (p1 ++ ans V D H s w p1 q) (k - q) = a3 at *
          generalize ans V D H s w p1 q = a2 at *
          generalize ans V D H s w p1 k = a at *
          refine impl_of (fn := Try.f6) tbl_ok (by kernel_rfl) (by kernel_rfl) rfl ⟨by simp [Try.f6], by decide⟩ rfl fun W0 => ?_
          repeat' first
            | apply WP.seq
            | (apply WP.region (E := eGreedyParts) mixed tbl_ok; conv => whnf)
            | (apply WP.cond; conv => whnf)
            | (apply WP.skip; conv => whnf)
            | (apply WP.ret; conv => whnf)
            | (rw [fz_blks]; conv => whnf)
            | (rw [ints_cut, hcut]; conv => whnf)
            | (rw [ints_cut, hcut2]; conv => whnf)
            | (rw [hnil]; conv => whnf)
            | (rw [happ]; conv => whnf)
            | (apply reg_and; (· kernel_rfl); conv => whnf)
            | (apply ex_and; (· with_reducible exact hF); conv => whnf)
            | (apply ex_and; (· with_reducible exact hM); conv => whnf)
            | (apply ex_and; (· with_reducible exact hsm); conv => whnf)
            | (apply ex_and; (· with_reducible exact hR); conv => whnf)
            | (apply ex_and; (· with_reducible exact hO); conv => whnf)
            | (apply ex_and; (· with_reducible exact hR2); conv => whnf)
            | (apply ex_and; (· with_reducible exact hS1); conv => whnf)
            | (apply ex_and; (· with_reducible exact hR3); conv => whnf)
            | (apply ex_and; (· with_reducible exact hS2); conv => whnf)
            | (apply ex_and; (· with_reducible exact awake10_ok); conv => whnf)
            | (apply ex_ilen; conv => whnf)
            | (apply ex_i64; (· omega); conv => whnf)
            | (apply ex_eq; conv => whnf)
            | ((with_reducible apply gd_t); conv => whnf)
            | ((with_reducible apply gd_nt); conv => whnf)
            | (apply gd_br)
            | (apply And.intro; (· first | with_reducible rfl | exact trivial | exact Or.inl ⟨rfl, rfl⟩ | exact Or.inr rfl | decide | omega | (apply Nat.le_of_ble_eq_true; rfl) | (dsimp only; omega) | (simp only [ints_len, gl_len, mp_len, List.length_cons, List.length_nil, List.length_drop, List.length_take]; omega)); conv => whnf)
            | apply br_not
            | (apply br_t; conv => whnf)
            | (apply br_f; conv => whnf)
            | (apply br_no; (· omega); conv => whnf)
            | fail
    · have hR := fun {np : Option Bool} => run_asked (np := np) (w := w) most (by omega) (by omega) (chkW_of hc hg) ha
      clear hg
      generalize asked c.vocab p1 most = k at *
      refine impl_of (fn := Try.f6) tbl_ok (by kernel_rfl) (by kernel_rfl) rfl ⟨by simp [Try.f6], by decide⟩ rfl fun W0 => ?_
      repeat' first
        | apply WP.seq
        | (apply WP.region (E := eGreedyParts) mixed tbl_ok; conv => whnf)
        | (apply WP.cond; conv => whnf)
        | (apply WP.skip; conv => whnf)
        | (apply WP.ret; conv => whnf)
        | (rw [fz_blks]; conv => whnf)
        | (apply reg_and; (· kernel_rfl); conv => whnf)
        | (apply ex_and; (· with_reducible exact hF); conv => whnf)
        | (apply ex_and; (· with_reducible exact hM); conv => whnf)
        | (apply ex_and; (· with_reducible exact hsm); conv => whnf)
        | (apply ex_and; (· with_reducible exact hR); conv => whnf)
        | (apply ex_and; (· with_reducible exact awake10_ok); conv => whnf)
        | (apply ex_ilen; conv => whnf)
        | (apply ex_eq; conv => whnf)
        | ((with_reducible apply gd_t); conv => whnf)
        | (apply gd_br)
        | (apply And.intro; (· first | with_reducible rfl | exact trivial | exact Or.inl ⟨rfl, rfl⟩ | exact Or.inr rfl | decide | omega | (apply Nat.le_of_ble_eq_true; rfl) | (dsimp only; omega) | (simp only [ints_len, gl_len, mp_len, List.length_cons, List.length_nil, List.length_drop, List.length_take]; omega)); conv => whnf)
        | apply br_not
        | (apply br_t; conv => whnf)
        | (apply br_f; conv => whnf)
        | (apply br_no; (· omega); conv => whnf)
        | fail
      all_goals rfl
  · have hM := make_err (c := c) (seed := seed) hsh
    generalize shp c = k at *
    refine impl_of (fn := Try.f6) tbl_ok (by kernel_rfl) (by kernel_rfl) rfl ⟨by simp [Try.f6], by decide⟩ rfl fun W0 => ?_
    repeat' first
      | apply WP.seq
      | (apply WP.region (E := eGreedyParts) mixed tbl_ok; conv => whnf)
      | (apply WP.cond; conv => whnf)
      | (apply WP.ret; conv => whnf)
      | (apply reg_and; (· kernel_rfl); conv => whnf)
      | (apply ex_and; (· with_reducible exact hF); conv => whnf)
      | (apply ex_and; (· with_reducible exact hM); conv => whnf)
      | (apply ex_and; (· with_reducible exact awake10_ok); conv => whnf)
      | (apply ex_eq; conv => whnf)
      | ((with_reducible apply gd_t); conv => whnf)
      | (apply gd_br)
      | (apply And.intro; (· first | with_reducible rfl | exact trivial | exact Or.inl ⟨rfl, rfl⟩ | exact Or.inr rfl | decide | omega | (apply Nat.le_of_ble_eq_true; rfl) | (dsimp only; omega) | (simp only [ints_len, gl_len, mp_len, List.length_cons, List.length_nil, List.length_drop, List.length_take]; omega)); conv => whnf)
      | apply br_not
      | (apply br_t; conv => whnf)
      | (apply br_no; (· omega); conv => whnf)
      | fail
end Go.Proofs.Ytjihjjbieeofdaa.T
