/- What functions of the program come to, on trees. No condition but those that the theorems name. -/
import Derived.Test.YtjihjjbieeofdaaPG8
namespace Go.Proofs.Ytjihjjbieeofdaa.T
set_option linter.unusedSimpArgs false
set_option linter.unusedVariables false
open Go
set_option linter.unusedVariables false
set_option maxHeartbeats 8000000
set_option maxRecDepth 100000
def eGreedyBest : Env := ⟨tbl, [46, 13], [], [], [(0, [1, 2, 3, 4, 5999, 5000, 5001, 5002, 5003, 5004]), (1, [1, 2, 3, 4, 5999, 5000, 5001, 5002, 5003, 5004]), (2, [2, 3, 4, 9, 10, 5999, 5000, 5001, 5002, 5003, 5004, 10999, 10000, 10001, 10002, 10003, 10004, 10005, 10006, 10007]), (3, [2, 3, 4, 9, 39, 5999, 5000, 5001, 5002, 5003, 5004, 10999, 10000, 10001, 10002, 10003, 10004, 10005, 10006, 10007]), (4, [8]), (5, [2, 3, 4, 9, 11, 12, 5999, 5000, 5001, 5002, 5003, 5004, 10999, 10000, 10001, 10002, 10003, 10004, 10005, 10006, 10007]), (6, [2, 3, 4, 9, 11, 50, 5999, 5000, 5001, 5002, 5003, 5004, 10999, 10000, 10001, 10002, 10003, 10004, 10005, 10006, 10007]), (7, [8]), (8, [3, 4, 9, 11, 13, 5999, 5000, 5001, 5002, 5003, 5004, 10999, 10000, 10001, 10002, 10003, 10004, 10005, 10006, 10007]), (9, [3, 4, 9, 11, 13, 58, 59, 60, 5999, 5000, 5001, 5002, 5003, 5004, 10999, 10000, 10001, 10002, 10003, 10004, 10005, 10006, 10007]), (10, [3, 4, 9, 11, 13, 58, 59, 60, 61, 5999, 5000, 5001, 5002, 5003, 5004, 10999, 10000, 10001, 10002, 10003, 10004, 10005, 10006, 10007]), (11, [3, 4, 9, 11, 13, 14, 15, 58, 59, 60, 5999, 5000, 5001, 5002, 5003, 5004, 10999, 10000, 10001, 10002, 10003, 10004, 10005, 10006, 10007]), (12, [3, 4, 9, 11, 13, 14, 15, 16, 18, 58, 59, 60, 5999, 5000, 5001, 5002, 5003, 5004, 10999, 10000, 10001, 10002, 10003, 10004, 10005, 10006, 10007]), (13, [3, 4, 9, 11, 13, 15, 16, 58, 59, 60, 95, 5999, 5000, 5001, 5002, 5003, 5004, 10999, 10000, 10001, 10002, 10003, 10004, 10005, 10006, 10007]), (14, [8]), (15, [3, 4, 9, 11, 13, 15, 16, 58, 59, 60, 96, 97, 98, 5999, 5000, 5001, 5002, 5003, 5004, 10999, 10000, 10001, 10002, 10003, 10004, 10005, 10006, 10007]), (16, [3, 4, 9, 11, 13, 15, 16, 58, 59, 60, 96, 97, 98, 99, 5999, 5000, 5001, 5002, 5003, 5004, 10999, 10000, 10001, 10002, 10003, 10004, 10005, 10006, 10007]), (17, [3, 4, 9, 11, 13, 15, 16, 19, 20, 58, 59, 60, 96, 97, 98, 5999, 5000, 5001, 5002, 5003, 5004, 10999, 10000, 10001, 10002, 10003, 10004, 10005, 10006, 10007]), (18, [3, 4, 9, 11, 13, 15, 16, 58, 59, 60, 96, 97, 98, 121, 5999, 5000, 5001, 5002, 5003, 5004, 10999, 10000, 10001, 10002, 10003, 10004, 10005, 10006, 10007]), (19, [8]), (20, [3, 4, 9, 11, 13, 15, 16, 58, 59, 60, 96, 97, 98, 5999, 5000, 5001, 5002, 5003, 5004, 10999, 10000, 10001, 10002, 10003, 10004, 10005, 10006, 10007]), (21, [3, 4, 9, 11, 13, 58, 59, 60, 5999, 5000, 5001, 5002, 5003, 5004, 10999, 10000, 10001, 10002, 10003, 10004, 10005, 10006, 10007]), (22, [3, 4, 9, 11, 13, 58, 59, 60, 5999, 5000, 5001, 5002, 5003, 5004, 10999, 10000, 10001, 10002, 10003, 10004, 10005, 10006, 10007]), (23, [8])]⟩
theorem greedybest_law (c : Cfg) (seed : Int) (p : List Int) (most : Int) (hseed : IntKind.u64.min ≤ seed ∧ seed ≤ IntKind.u64.max) (hp : IntsW p) (hm : IntKind.i64.min ≤ most ∧ most ≤ IntKind.i64.max) : Impl Try.prog 8 [cfgA c, .i .u64 seed, .sl none none 1 false (ints .i64 p), .i .i64 most] (.b true) := by
  have hF : ∀ {no : Option Bool}, Impl Try.prog 20 [.sl none no 1 false (ints .i64 p), .i .i64 8] (.sl (some 0) none 1 false (ints .i64 (p.take 8))) := fun {no} => few8_ok 8 hp.1 (by omega)
  have hpl : (p.take 8).length ≤ 8 := by rw [List.length_take]; omega
  generalize p.take 8 = p1 at *
  obtain ⟨sc, hsm, h0⟩ : ∃ (sc : Int), Impl Try.prog 30 [cfgA c] (.i .i64 sc) ∧ (sc = 0 ∨ sc = 1) := by
    have := small_ok c
    by_cases h : small c
    · rw [if_pos h] at this; exact ⟨1, this, .inr rfl⟩
    · rw [if_neg h] at this; exact ⟨0, this, .inl rfl⟩
  by_cases hsh : shp c = 0
  · obtain ⟨V, D, nh, H, L, s, hc⟩ := shp_good hsh
    have hM := make_goodC hc hseed
    have hg : WtsG V D H L (sMake seed V D H L) := make_good (by have := hc.gv; omega) hc.gd.2 hc.gh.2
    generalize sMake seed V D H L = w at *
    have hlay := hg.layers
    have hcl := hc.gl
    have hcv := hc.gv
    by_cases hs0 : sc = 0 ∨ 6 < most
    · clear hg
      refine impl_of (fn := Try.f8) tbl_ok (by kernel_rfl) (by kernel_rfl) rfl ⟨by simp [Try.f8], by decide⟩ rfl fun W0 => ?_
      repeat' first
        | apply WP.seq
        | (apply WP.region (E := eGreedyBest) mixed tbl_ok; conv => whnf)
        | (apply WP.cond; conv => whnf)
        | (apply WP.ret; conv => whnf)
        | (apply reg_and; (· kernel_rfl); conv => whnf)
        | (apply ex_and; (· with_reducible exact hF); conv => whnf)
        | (apply ex_and; (· with_reducible exact hM); conv => whnf)
        | (apply ex_and; (· with_reducible exact hsm); conv => whnf)
        | (apply ex_and; (· with_reducible exact awake10_ok); conv => whnf)
        | (apply ex_eq; conv => whnf)
        | (apply gd_br)
        | (apply And.intro; (· first | with_reducible rfl | exact trivial | exact Or.inl ⟨rfl, rfl⟩ | exact Or.inr rfl | decide | omega | (apply Nat.le_of_ble_eq_true; rfl) | (dsimp only; omega) | (simp only [ints_len, gl_len, mp_len, List.length_cons, List.length_nil, List.length_drop, List.length_take]; omega)); conv => whnf)
        | apply br_not
        | (apply br_t; conv => whnf)
        | (apply br_yes; (· omega); conv => whnf)
        | (apply br_no; (· omega); conv => whnf)
        | (apply br_dec <;> intro hbr <;> (first | rw [decide_eq_true hbr] | rw [decide_eq_false hbr] | skip) <;> conv => whnf)
        | fail
      all_goals omega
    have hs1 : sc = 1 := by omega
    subst hs1
    by_cases ha : asked c.vocab p1 most = 0
    · obtain ⟨hp0, hm1, hm2⟩ := asked_zero ha
      obtain ⟨p3, p4, p5⟩ := prm_zero hp0
      obtain ⟨k, he⟩ := ends_ex (V := V) (D := D) (H := H) (s := s) (w := w) (p := p1) hm1
      have hR := fun {np : Option Bool} => run_ok (np := np) hc hg ha he
      have hk1 := he.pos
      have hk2 := he.le
      have hal := ans_len V D H s w p1 k
      have hfin : ((ans V D H s w p1 k).length : Int) = most ∨ (ans V D H s w p1 k).getD (((ans V D H s w p1 k).length : Int) - 1).toNat 0 = 0 := by
        rw [show (((ans V D H s w p1 k).length : Int) - 1).toNat = (ans V D H s w p1 k).length - 1 by omega]
        rcases he.fin with h | h
        · exact .inl (by omega)
        · exact .inr h.2
      have hget : ∀ i, i < k → (ans V D H s w p1 k).getD ((i : Nat) : Int).toNat 0 = nx V D H s w (p1 ++ ans V D H s w p1 i) := fun i hi => by
        have := ans_take (V := V) (D := D) (H := H) (s := s) (w := w) (p := p1) (show i + 1 ≤ k by omega)
        have e : ((ans V D H s w p1 k).take (i + 1)).getD i 0 = (ans V D H s w p1 k).getD i 0 := by
          rw [List.getD_eq_getElem?_getD, List.getElem?_take, if_pos (by omega), ← List.getD_eq_getElem?_getD]
        rw [Int.toNat_natCast, ← e, this]
        show (ans V D H s w p1 i ++ [_]).getD i 0 = _
        rw [List.getD_eq_getElem?_getD, List.getElem?_append_right (by rw [ans_len]; omega), ans_len, Nat.sub_self]; rfl
      have hzero : ∀ i, i < k → nx V D H s w (p1 ++ ans V D H s w p1 i) = 0 → i + 1 = k := fun i hi hz => by
        by_cases e : i + 1 = k
        · exact e
        · exfalso
          refine he.not (i + 1) (by omega) (.inr ⟨by rw [ans_len]; omega, ?_⟩)
          rw [ans_len]
          show (ans V D H s w p1 i ++ [_]).getD i 0 = _
          rw [List.getD_eq_getElem?_getD, List.getElem?_append_right (by rw [ans_len]; omega), ans_len, Nat.sub_self]
          exact hz
      obtain ⟨Tn, hTn⟩ : ∃ Tn : Nat → List Int, ∀ i, Tn i = p1 ++ ans V D H s w p1 i := ⟨_, fun _ => rfl⟩
      have hT0 : p1 = Tn 0 := by rw [hTn]; exact (List.append_nil _).symm
      have hTs : ∀ i, Tn i ++ [nx V D H s w (Tn i)] = Tn (i + 1) := fun i => by
        rw [hTn (i + 1)]; unfold ans; rw [hTn i, List.append_assoc]
      have hTl : ∀ i, (Tn i).length = p1.length + i := fun i => by rw [hTn, List.length_append, ans_len]
      have hTv : ∀ i, ∀ x ∈ Tn i, 0 ≤ x ∧ x < c.vocab := fun i x hx => by
        rw [hTn] at hx
        rcases List.mem_append.1 hx with hx | hx
        · exact p5 x hx
        · have := ans_in (by omega) i x hx; omega
      have hget2 : ∀ i, i < k → (ans V D H s w p1 k).getD ((i : Nat) : Int).toNat 0 = nx V D H s w (Tn i) := fun i hi => by rw [hTn]; exact hget i hi
      have hzero2 : ∀ i, i < k → nx V D H s w (Tn i) = 0 → i + 1 = k := fun i hi hz => by rw [hTn] at hz; exact hzero i hi hz
      clear hget hzero hTn he
      generalize ans V D H s w p1 k = a at *
      refine impl_of (fn := Try.f8) tbl_ok (by kernel_rfl) (by kernel_rfl) rfl ⟨by simp [Try.f8], by decide⟩ rfl fun W0 => ?_
      repeat' first
        | apply WP.seq
        | (apply WP.region (E := eGreedyBest) mixed tbl_ok; conv => whnf)
        | (apply WP.cond; conv => whnf)
        | (apply WP.skip; conv => whnf)
        | apply WP.block
        | (rw [fz_blks]; conv => whnf)
        | (apply reg_and; (· kernel_rfl); conv => whnf)
        | (apply ex_and; (· with_reducible exact hF); conv => whnf)
        | (apply ex_and; (· with_reducible exact hM); conv => whnf)
        | (apply ex_and; (· with_reducible exact hsm); conv => whnf)
        | (apply ex_and; (· with_reducible exact hR); conv => whnf)
        | (apply ex_ilen; conv => whnf)
        | (apply ex_eq; conv => whnf)
        | (apply gd_br)
        | (apply And.intro; (· first | with_reducible rfl | exact trivial | exact Or.inl ⟨rfl, rfl⟩ | exact Or.inr rfl | decide | omega | (apply Nat.le_of_ble_eq_true; rfl) | (dsimp only; omega) | (simp only [ints_len, gl_len, mp_len, List.length_cons, List.length_nil, List.length_drop, List.length_take]; omega)); conv => whnf)
        | apply br_not
        | (apply br_t; conv => whnf)
        | (apply br_f; conv => whnf)
        | (apply br_no; (· omega); conv => whnf)
        | fail
      refine WP.loopM [13, 14, 15, 16, 18, 19, 20, 60, 61, 95, 96, 97, 98, 99, 121] (fun i : Nat => [(60, .i .i64 i), (13, .sl none none 1 false (ints .i64 (Tn i)))]) (fun i => i ≤ k) (fun i => k - i) 0 ?_
      conv => whnf
      refine And.intro (And.intro ?_ ?_) (fun i hi => ?_)
      · omega
      · conv => whnf
        repeat' first
          | apply True.intro
          | (apply ptr_and; (· kernel_rfl); conv => whnf)
          | omega
          | (apply Or.inr; rfl)
          | (apply or_row; (· rfl); (· rfl); rfl)
          | (apply And.intro <;> conv => whnf)
          | (rw [← hT0]; apply or_row <;> rfl)
          | fail
      conv => whnf
      by_cases hik : i < k
      · have hg1 := hget2 i hik
        have hz1 := hzero2 i hik
        have hs := hTs i
        have hl := hTl i
        have hnx := nx_in (D := D) (H := H) (s := s) (w := w) (show 0 < V by omega) (Tn i)
        have hFu := fun {nt : Option Bool} => full_good (nt := nt) (t := Tn i) hc hg (prm_good (by omega) (by omega) fun j hj => hTv i _ (getD_mem hj 0))
        have hlen := sFull_len V D H s w (Tn i)
        have hmx : ∀ j, j < V → (sFull V D H s w (Tn i)).getD j 0 ≤ (sFull V D H s w (Tn i)).getD (nx V D H s w (Tn i)).toNat 0 := fun j hj => by
          have := argN_top (sFull V D H s w (Tn i)) V (by omega)
          have h2 := topN_ge (sFull V D H s w (Tn i)) V j hj
          unfold nx; omega
        have hls : ∀ j : Nat, (j : Int) < nx V D H s w (Tn i) → (sFull V D H s w (Tn i)).getD j 0 ≠ (sFull V D H s w (Tn i)).getD (nx V D H s w (Tn i)).toNat 0 := fun j hj => by
          have := argN_top (sFull V D H s w (Tn i)) V (by omega)
          have h2 := argN_least (sFull V D H s w (Tn i)) V j hj
          unfold nx; rw [this]; exact h2
        obtain ⟨q, hq⟩ : ∃ q : Nat, nx V D H s w (Tn i) = q := ⟨(nx V D H s w (Tn i)).toNat, by omega⟩
        rw [hq] at hg1 hz1 hs hnx hmx hls
        have hnil : ([] : List AV) ++ ints .i64 (Tn i) = ints .i64 (Tn i) := rfl
        clear hget2 hzero2 hTs hTl hTv hg hq
        generalize sFull V D H s w (Tn i) = fu at *
        generalize sKeys D H s w (Tn i) = ks at *
        generalize sVals D H s w (Tn i) = vs at *
        repeat' first
          | (apply ex_ints; (· omega); rw [hg1]; conv => whnf)
          | apply WP.seq
          | (apply WP.region (E := eGreedyBest) mixed tbl_ok; conv => whnf)
          | (apply WP.cond; conv => whnf)
          | (apply WP.skip; conv => whnf)
          | apply WP.block
          | (rw [fz_blks]; conv => whnf)
          | (apply reg_and; (· kernel_rfl); conv => whnf)
          | (apply ex_and; (· with_reducible exact hFu); conv => whnf)
          | (apply ex_ilen; conv => whnf)
          | (apply ex_i64; (· omega); conv => whnf)
          | (apply ex_eq; conv => whnf)
          | (apply gd_br)
          | (apply nd_ints; (· omega); conv => whnf)
          | (apply And.intro; (· first | with_reducible rfl | exact trivial | exact Or.inl ⟨rfl, rfl⟩ | exact Or.inr rfl | decide | omega | (apply Nat.le_of_ble_eq_true; rfl) | (dsimp only; omega) | (simp only [ints_len, gl_len, mp_len, List.length_cons, List.length_nil, List.length_drop, List.length_take]; omega)); conv => whnf)
          | apply br_not
          | (apply br_t; conv => whnf)
          | (apply br_f; conv => whnf)
          | (apply br_yes; (· omega); conv => whnf)
          | (apply br_no; (· omega); conv => whnf)
          | (apply br_dec <;> intro hbr <;> (first | rw [decide_eq_true hbr] | rw [decide_eq_false hbr] | skip) <;> conv => whnf)
          | fail
        all_goals
          refine WP.loopM [19, 20, 98, 99, 121] (fun j : Nat => [(98, .i .i64 j)]) (fun j => j ≤ V) (fun j => V - j) 0 ?_
          conv => whnf
          refine And.intro (And.intro ?_ ?_) (fun j hj => ?_)
          · first | omega | trivial | skip
          · conv => whnf
            repeat' first
              | apply True.intro
              | (apply ptr_and; (· kernel_rfl); conv => whnf)
              | omega
              | (apply Or.inr; rfl)
              | (apply or_row; (· rfl); (· rfl); rfl)
              | (apply And.intro <;> conv => whnf)
              | (apply Nat.le_of_ble_eq_true; rfl)
              | fail
          conv => whnf
          have hmx1 : j < V → fu.getD ((j : Nat) : Int).toNat 0 ≤ fu.getD ((q : Nat) : Int).toNat 0 := fun h => by rw [Int.toNat_natCast]; exact hmx j h
          have hls1 : j < q → fu.getD ((j : Nat) : Int).toNat 0 ≠ fu.getD ((q : Nat) : Int).toNat 0 := fun h => by rw [Int.toNat_natCast]; exact hls j (by omega)
          repeat' first
            | apply WP.seq
            | (apply WP.region (E := eGreedyBest) mixed tbl_ok; conv => whnf)
            | (apply WP.cond; conv => whnf)
            | (apply WP.skip; conv => whnf)
            | (apply WP.exit; conv => whnf)
            | apply WP.block
            | (rw [hnil]; conv => whnf)
            | (rw [ints_snoc, hs]; conv => whnf)
            | (apply reg_and; (· kernel_rfl); conv => whnf)
            | (apply ex_i64; (· omega); conv => whnf)
            | (apply ex_ints; (· omega); conv => whnf)
            | (apply ex_eq; conv => whnf)
            | ((with_reducible apply gd_t); conv => whnf)
            | ((with_reducible apply gd_f); conv => whnf)
            | (apply gd_br)
            | (apply nd_ints; (· omega); conv => whnf)
            | (apply And.intro; (· first | with_reducible rfl | exact trivial | exact Or.inl ⟨rfl, rfl⟩ | exact Or.inr rfl | decide | omega | (apply Nat.le_of_ble_eq_true; rfl) | (dsimp only; omega) | (simp only [ints_len, gl_len, mp_len, List.length_cons, List.length_nil, List.length_drop, List.length_take]; omega)); conv => whnf)
            | (apply br_f; conv => whnf)
            | (apply br_no; (· omega); conv => whnf)
            | (apply br_dec <;> intro hbr <;> (first | rw [decide_eq_true hbr] | rw [decide_eq_false hbr] | skip) <;> conv => whnf)
            | fail
          all_goals
            first
            | refine Exists.intro (j + 1) (And.intro (And.intro (show j + 1 ≤ V by omega) (by omega)) ?_)
            | refine Exists.intro (i + 1) (And.intro (And.intro (by omega) (by omega)) ?_)
          all_goals conv => whnf
          all_goals
            repeat' first
              | apply True.intro
              | (apply ptr_and; (· kernel_rfl); conv => whnf)
              | omega
              | (apply Or.inr; rfl)
              | (apply Or.inl; rfl)
              | (apply or_row; (· rfl); (· rfl); rfl)
              | (apply And.intro <;> conv => whnf)
              | (apply Nat.le_of_ble_eq_true; rfl)
              | fail
      · have e : i = k := by omega
        subst e
        repeat' first
          | apply WP.seq
          | (apply WP.region (E := eGreedyBest) mixed tbl_ok; conv => whnf)
          | (apply WP.cond; conv => whnf)
          | (apply WP.ret; conv => whnf)
          | (apply WP.exit; conv => whnf)
          | (apply reg_and; (· kernel_rfl); conv => whnf)
          | (apply ex_and; (· with_reducible exact awake10_ok); conv => whnf)
          | (apply ex_ilen; conv => whnf)
          | (apply ex_i64; (· omega); conv => whnf)
          | (apply ex_ints; (· omega); conv => whnf)
          | (apply ex_eq; conv => whnf)
          | ((with_reducible apply gd_t); conv => whnf)
          | (apply gd_br)
          | (apply nd_ints; (· omega); conv => whnf)
          | (apply And.intro; (· first | with_reducible rfl | exact trivial | exact Or.inl ⟨rfl, rfl⟩ | exact Or.inr rfl | decide | omega | (apply Nat.le_of_ble_eq_true; rfl) | (dsimp only; omega) | (simp only [ints_len, gl_len, mp_len, List.length_cons, List.length_nil, List.length_drop, List.length_take]; omega)); conv => whnf)
          | (apply br_yes; (· omega); conv => whnf)
          | (apply br_no; (· omega); conv => whnf)
          | (apply br_dec <;> intro hbr <;> (first | rw [decide_eq_true hbr] | rw [decide_eq_false hbr] | skip) <;> conv => whnf)
          | fail
        all_goals exact beq_iff_eq.2 (by omega)
    · have hR := fun {np : Option Bool} => run_asked (np := np) (w := w) most (by omega) (by omega) (chkW_of hc hg) ha
      clear hg
      generalize asked c.vocab p1 most = k at *
      refine impl_of (fn := Try.f8) tbl_ok (by kernel_rfl) (by kernel_rfl) rfl ⟨by simp [Try.f8], by decide⟩ rfl fun W0 => ?_
      repeat' first
        | apply WP.seq
        | (apply WP.region (E := eGreedyBest) mixed tbl_ok; conv => whnf)
        | (apply WP.cond; conv => whnf)
        | (apply WP.skip; conv => whnf)
        | (apply WP.ret; conv => whnf)
        | (rw [fz_blks]; conv => whnf)
        | (apply reg_and; (· kernel_rfl); conv => whnf)
        | (apply ex_and; (· with_reducible exact hF); conv => whnf)
        | (apply ex_and; (· with_reducible exact hM); conv => whnf)
        | (apply ex_and; (· with_reducible exact hsm); conv => whnf)
        | (apply ex_and; (· with_reducible exact hR); conv => whnf)
        | (apply ex_and; (· with_reducible exact awake10_ok); conv => whnf)
        | (apply ex_ilen; conv => whnf)
        | (apply ex_eq; conv => whnf)
        | ((with_reducible apply gd_t); conv => whnf)
        | (apply gd_br)
        | (apply And.intro; (· first | with_reducible rfl | exact trivial | exact Or.inl ⟨rfl, rfl⟩ | exact Or.inr rfl | decide | omega | (apply Nat.le_of_ble_eq_true; rfl) | (dsimp only; omega) | (simp only [ints_len, gl_len, mp_len, List.length_cons, List.length_nil, List.length_drop, List.length_take]; omega)); conv => whnf)
        | apply br_not
        | (apply br_t; conv => whnf)
        | (apply br_f; conv => whnf)
        | (apply br_no; (· omega); conv => whnf)
        | fail
      all_goals rfl
  · have hM := make_err (c := c) (seed := seed) hsh
    generalize shp c = k at *
    refine impl_of (fn := Try.f8) tbl_ok (by kernel_rfl) (by kernel_rfl) rfl ⟨by simp [Try.f8], by decide⟩ rfl fun W0 => ?_
    repeat' first
      | apply WP.seq
      | (apply WP.region (E := eGreedyBest) mixed tbl_ok; conv => whnf)
      | (apply WP.cond; conv => whnf)
      | (apply WP.ret; conv => whnf)
      | (apply reg_and; (· kernel_rfl); conv => whnf)
      | (apply ex_and; (· with_reducible exact hF); conv => whnf)
      | (apply ex_and; (· with_reducible exact hM); conv => whnf)
      | (apply ex_and; (· with_reducible exact awake10_ok); conv => whnf)
      | (apply ex_eq; conv => whnf)
      | ((with_reducible apply gd_t); conv => whnf)
      | (apply gd_br)
      | (apply And.intro; (· first | with_reducible rfl | exact trivial | exact Or.inl ⟨rfl, rfl⟩ | exact Or.inr rfl | decide | omega | (apply Nat.le_of_ble_eq_true; rfl) | (dsimp only; omega) | (simp only [ints_len, gl_len, mp_len, List.length_cons, List.length_nil, List.length_drop, List.length_take]; omega)); conv => whnf)
      | apply br_not
      | (apply br_t; conv => whnf)
      | (apply br_no; (· omega); conv => whnf)
      | fail
end Go.Proofs.Ytjihjjbieeofdaa.T
