/- What functions of the program come to, on trees. No condition but those that the theorems name. -/
import Derived.Test.YtcngjnhdemjomaaPB7
namespace Go.Proofs.Ytcngjnhdemjomaa.T
set_option linter.unusedSimpArgs false
set_option linter.unusedVariables false
open Go
set_option linter.unusedVariables false
set_option maxHeartbeats 8000000
set_option maxRecDepth 100000
theorem make_goodC {c : Cfg} {V D n H L s : Nat} (hc : CfgG c V D n H L s) {seed : Int} (h : IntKind.u64.min ≤ seed ∧ seed ≤ IntKind.u64.max) : Impl Try.prog 25 [cfgA c, .i .u64 seed] (.tup [wtsA (some 0) none (sMake seed V D H L), .i .i64 0]) := by
  have hs := shp_of hc
  obtain ⟨c1, c2, c3, c4, c5⟩ := c
  obtain ⟨g1, g2, g3, g4, g5, g6⟩ := hc
  obtain ⟨rfl, h1⟩ := g1
  obtain ⟨rfl, h2⟩ := g2
  obtain ⟨rfl, h3⟩ := g3
  obtain ⟨rfl, h4⟩ := g4
  obtain ⟨rfl, h5⟩ := g5
  have e : stN seed 0 = seed := by
    have h1 : IntKind.u64.min = 0 := rfl
    have h2 : IntKind.u64.max = 18446744073709551615 := rfl
    unfold stN
    rw [IntKind.wrap_u64]
    omega
  have := make_ok (seed := seed) hs h1.2 h2.2 h4.2 h5.2
  rwa [e] at this
/-- What comes ahead hangs on what comes ahead alone. -/
theorem X_pre {D H s : Nat} {w : Wts} {F F' : Nat → List Int} {m : Nat} (h : ∀ i, i < m → F i = F' i) : ∀ l i, i < m → X D H s w F l i = X D H s w F' l i
  | 0, i, hi => h i hi
  | l + 1, i, hi => by
    have ih := X_pre (D := D) (H := H) (s := s) (w := w) h l
    show (match w.blocks[l]? with | some b => lx D H s b (X D H s w F l) i | none => []) = (match w.blocks[l]? with | some b => lx D H s b (X D H s w F' l) i | none => [])
    cases w.blocks[l]? with
    | none => rfl
    | some b =>
      show lx D H s b (X D H s w F l) i = lx D H s b (X D H s w F' l) i
      unfold lx
      rw [ih i hi, mp_congr fun j hj => by rw [ih j (by omega)], mp_congr (F := fun j => sV D b (X D H s w F l j)) fun j hj => by rw [ih j (by omega)]]
theorem fB_take {D : Nat} {w : Wts} {t : List Int} {n : Nat} (hn : n ≤ t.length) : ∀ i, i < n → fB D w t i = fB D w (t.take n) i := fun i hi => by
  unfold fB
  congr 2
  rw [List.getD_eq_getElem?_getD, List.getD_eq_getElem?_getD, List.getElem?_take, if_pos hi]
theorem keys_take {D H s : Nat} {w : Wts} {t : List Int} {n : Nat} (hn : n ≤ t.length) (l : Nat) : (mp t.length (kF D H s w (fB D w t) l)).take n = mp n (kF D H s w (fB D w (t.take n)) l) := by
  rw [mp_take hn]
  refine mp_congr fun i hi => ?_
  unfold kF
  rw [X_pre (fB_take hn) l i hi]
theorem vals_take {D H s : Nat} {w : Wts} {t : List Int} {n : Nat} (hn : n ≤ t.length) (l : Nat) : (mp t.length (vF D H s w (fB D w t) l)).take n = mp n (vF D H s w (fB D w (t.take n)) l) := by
  rw [mp_take hn]
  refine mp_congr fun i hi => ?_
  unfold vF
  rw [X_pre (fB_take hn) l i hi]
def ePassBegins : Env := ⟨tbl, [66], [129, 139], [], [(0, [1, 2, 3, 4, 5999, 5000, 5001, 5002, 5003, 5004]), (1, [1, 2, 3, 4, 5999, 5000, 5001, 5002, 5003, 5004]), (2, [2, 3, 4, 9, 10, 5999, 5000, 5001, 5002, 5003, 5004, 10999, 10000, 10001, 10002, 10003, 10004, 10005, 10006, 10007]), (3, [2, 3, 4, 9, 50, 5999, 5000, 5001, 5002, 5003, 5004, 10999, 10000, 10001, 10002, 10003, 10004, 10005, 10006, 10007]), (4, [8]), (5, [2, 3, 4, 9, 12, 13, 5999, 5000, 5001, 5002, 5003, 5004, 10999, 10000, 10001, 10002, 10003, 10004, 10005, 10006, 10007, 13999, 13000, 13001]), (6, [2, 3, 4, 12, 13, 15, 16, 5999, 5000, 5001, 5002, 5003, 5004, 13999, 13000, 13001, 16999, 16000, 16001]), (7, [2, 3, 12, 15, 91, 13999, 13000, 13001, 16999, 16000, 16001]), (8, [8]), (9, [2, 3, 12, 15, 17, 18, 13999, 13000, 13001, 16999, 16000, 16001]), (10, [2, 3, 12, 15, 17, 18, 96, 97, 13999, 13000, 13001, 16999, 16000, 16001]), (11, [2, 3, 12, 15, 17, 18, 96, 97, 98, 13999, 13000, 13001, 16999, 16000, 16001]), (12, [2, 3, 12, 15, 17, 18, 19, 96, 97, 13999, 13000, 13001, 16999, 16000, 16001]), (13, [2, 3, 12, 15, 17, 18, 19, 96, 97, 119, 13999, 13000, 13001, 16999, 16000, 16001]), (14, [8]), (15, [2, 3, 12, 15, 17, 18, 19, 96, 97, 13999, 13000, 13001, 16999, 16000, 16001]), (16, [2, 3, 12, 15, 17, 18, 96, 97, 13999, 13000, 13001, 16999, 16000, 16001]), (17, [2, 3, 12, 15, 17, 18, 96, 97, 13999, 13000, 13001, 16999, 16000, 16001]), (18, [8])]⟩
theorem passbegins_law (c : Cfg) (seed : Int) (t : List Int) (n : Int) (hseed : IntKind.u64.min ≤ seed ∧ seed ≤ IntKind.u64.max) (ht : IntsW t) (hn : IntKind.i64.min ≤ n ∧ n ≤ IntKind.i64.max) : Impl Try.prog 4 [cfgA c, .i .u64 seed, .sl none none 1 false (ints .i64 t), .i .i64 n] (.b true) := by
  have hF : ∀ {no : Option Bool}, Impl Try.prog 16 [.sl none no 1 false (ints .i64 t), .i .i64 8] (.sl (some 0) none 1 false (ints .i64 (t.take 8))) := fun {no} => few8_ok 8 ht.1 (by omega)
  have htl : (t.take 8).length ≤ 8 := by rw [List.length_take]; omega
  generalize t.take 8 = t1 at *
  obtain ⟨sc, hsm, h0⟩ : ∃ (sc : Int), Impl Try.prog 15 [cfgA c] (.i .i64 sc) ∧ (sc = 0 ∨ sc = 1) := by
    have := small_ok c
    by_cases h : small c
    · rw [if_pos h] at this; exact ⟨1, this, .inr rfl⟩
    · rw [if_neg h] at this; exact ⟨0, this, .inl rfl⟩
  have hP : ∀ {nt : Option Bool}, Impl Try.prog 26 [cfgA c, .sl none nt 1 false (ints .i64 t1)] (.i .i64 (prm c.vocab t1)) := fun {nt} => prompt_ok c (by omega)
  by_cases hsh : shp c = 0
  · obtain ⟨V, D, nh, H, L, s, hc⟩ := shp_good hsh
    have hM := make_goodC hc hseed
    have hg : WtsG V D H L (sMake seed V D H L) := make_good (by have := hc.gv; omega) hc.gd.2 hc.gh.2
    generalize sMake seed V D H L = w at *
    by_cases hok : sc ≠ 0 ∧ prm c.vocab t1 = 0 ∧ 1 ≤ n ∧ n ≤ t1.length
    · obtain ⟨k1, k2, k3, k4⟩ := hok
      obtain ⟨q, rfl⟩ : ∃ q : Nat, n = q := ⟨n.toNat, by omega⟩
      have p3 := prm_zero k2
      have hp2 : prm c.vocab (t1.take q) = 0 := prm_good (by rw [List.length_take]; omega) (by rw [List.length_take]; omega) fun j hj => by
        rw [List.length_take] at hj
        have := p3.2.2 _ (getD_mem (l := t1) (i := j) (by omega) 0)
        rwa [List.getD_eq_getElem?_getD, List.getElem?_take, if_pos (by omega), ← List.getD_eq_getElem?_getD]
      have hA := fun {nt : Option Bool} => full_good (nt := nt) hc hg k2
      have hS := fun {nt : Option Bool} => full_good (nt := nt) hc hg hp2
      have hlay := hg.layers
      have e1 : sKeys D H s w (t1.take q) = mp L fun l => mp q (kF D H s w (fB D w (t1.take q)) l) := by unfold sKeys; rw [hlay, List.length_take, Nat.min_eq_left (by omega)]
      have e2 : sVals D H s w (t1.take q) = mp L fun l => mp q (vF D H s w (fB D w (t1.take q)) l) := by unfold sVals; rw [hlay, List.length_take, Nat.min_eq_left (by omega)]
      have hks := keys_small (D := D) (H := H) (s := s) (w := w) (t := t1.take q) (by have := hc.gl; omega) (by rw [List.length_take]; omega) (by have := hc.gd; omega)
      have hvs := vals_small (D := D) (H := H) (s := s) (w := w) (t := t1.take q) (by have := hc.gl; omega) (by rw [List.length_take]; omega) (by have := hc.gd; omega)
      rw [e1] at hS hks
      rw [e2] at hS hvs
      have hkl : (sKeys D H s w t1).length = L := by unfold sKeys; rw [mp_len]; exact hlay
      have hvl : (sVals D H s w t1).length = L := by unfold sVals; rw [mp_len]; exact hlay
      have hkat : ∀ l, l < L → (gl (rowsA none) (sKeys D H s w t1))[((l : Nat) : Int).toNat]? = some (rowsA none (mp t1.length (kF D H s w (fB D w t1) l))) := fun l hl => by
        rw [Int.toNat_natCast]; unfold sKeys gl mp; rw [List.getElem?_map, List.getElem?_map, List.getElem?_range (by omega)]; rfl
      have hvat : ∀ l, l < L → (gl (rowsA none) (sVals D H s w t1))[((l : Nat) : Int).toNat]? = some (rowsA none (mp t1.length (vF D H s w (fB D w t1) l))) := fun l hl => by
        rw [Int.toNat_natCast]; unfold sVals gl mp; rw [List.getElem?_map, List.getElem?_map, List.getElem?_range (by omega)]; rfl
      have hkt := fun l => keys_take (D := D) (H := H) (s := s) (w := w) (t := t1) (n := q) (by omega) l
      have hvt := fun l => vals_take (D := D) (H := H) (s := s) (w := w) (t := t1) (n := q) (by omega) l
      have hk1l := fun l => mp_len t1.length (kF D H s w (fB D w t1) l)
      have hv1l := fun l => mp_len t1.length (vF D H s w (fB D w t1) l)
      generalize (kF D H s w (fB D w (t1.take q))) = kq at *
      generalize (vF D H s w (fB D w (t1.take q))) = vq at *
      generalize (kF D H s w (fB D w t1)) = kt at *
      generalize (vF D H s w (fB D w t1)) = vt at *
      generalize sFull V D H s w t1 = fa at *
      generalize sFull V D H s w (t1.take q) = fs at *
      generalize sKeys D H s w t1 = ks at *
      generalize sVals D H s w t1 = vs at *
      obtain ⟨g1, g2, _, _, g5, _⟩ := hc
      have hcut : (t1.take ((q : Nat) : Int).toNat).drop (Int.toNat 0) = t1.take q := by rw [Int.toNat_natCast]; rfl
      refine impl_of (fn := Try.f4) tbl_ok (by kernel_rfl) (by kernel_rfl) rfl ⟨by simp [Try.f4], by decide⟩ rfl fun W0 => ?_
      repeat' first
        | apply WP.seq
        | (apply WP.region (E := ePassBegins) mixed tbl_ok; conv => whnf)
        | (apply WP.cond; conv => whnf)
        | (apply WP.skip; conv => whnf)
        | apply WP.block
        | (rw [fz_blks]; conv => whnf)
        | (rw [ints_cut, hcut]; conv => whnf)
        | (rw [fz_rows3]; conv => whnf)
        | (apply reg_and; (· kernel_rfl); conv => whnf)
        | (apply ex_and; (· with_reducible exact hF); conv => whnf)
        | (apply ex_and; (· with_reducible exact hM); conv => whnf)
        | (apply ex_and; (· with_reducible exact hsm); conv => whnf)
        | (apply ex_and; (· with_reducible exact hP); conv => whnf)
        | (apply ex_and; (· with_reducible exact hA); conv => whnf)
        | (apply ex_and; (· with_reducible exact hS); conv => whnf)
        | (apply ex_ilen; conv => whnf)
        | (apply ex_glen; conv => whnf)
        | (apply ex_eq; conv => whnf)
        | (apply gd_br)
        | (apply And.intro; (· first | with_reducible rfl | exact trivial | exact Or.inl ⟨rfl, rfl⟩ | exact Or.inr rfl | decide | omega | (apply Nat.le_of_ble_eq_true; rfl) | (dsimp only; omega) | (simp only [ints_len, gl_len, mp_len, List.length_cons, List.length_nil, List.length_drop, List.length_take]; omega)); conv => whnf)
        | apply br_not
        | (apply br_t; conv => whnf)
        | (apply br_yes; (· omega); conv => whnf)
        | (apply br_no; (· omega); conv => whnf)
        | fail
      refine WP.loopM [17, 18, 19, 97, 98, 119] (fun l : Nat => [(17, rows3 (some 0) (mp l fun l => mp q (kq l))), (18, rows3 (some 0) (mp l fun l => mp q (vq l))), (97, .i .i64 l)]) (fun l => l ≤ L) (fun l => L - l) 0 ?_
      conv => whnf
      refine And.intro (And.intro ?_ ?_) (fun l hl => ?_)
      · first | omega | trivial | skip
      · conv => whnf
        repeat' first
          | apply True.intro
          | (apply ptr_and; (· kernel_rfl); conv => whnf)
          | omega
          | (apply Or.inr; rfl)
          | (apply Or.inl; rfl)
          | (apply or_row; (· rfl); (· rfl); rfl)
          | (apply And.intro <;> conv => whnf)
          | fail
      conv => whnf
      have hkat := hkat l
      have hvat := hvat l
      have hcr : ∀ r : List (List Int), ((gl (rowA none) r).take ((q : Nat) : Int).toNat).drop (Int.toNat 0) = gl (rowA none) (r.take q) := fun r => by rw [gl_cut, Int.toNat_natCast]; rfl
      have hkt := hkt l
      have hvt := hvt l
      have hk1l := hk1l l
      have hv1l := hv1l l
      have hlL : l = L → (mp l fun l => mp q (kq l)) = (mp L fun l => mp q (kq l)) ∧ (mp l fun l => mp q (vq l)) = (mp L fun l => mp q (vq l)) := fun e => by rw [e]; exact ⟨rfl, rfl⟩
      have hsk : l = L → (mp l fun l => mp q (kq l)).length ≤ 1000000000000 ∧ ∀ x ∈ (mp l fun l => mp q (kq l)), x.length ≤ 1000000000000 ∧ ∀ y ∈ x, y.length ≤ 1000000000000 := fun e => by rw [e]; exact hks
      have hsv : l = L → (mp l fun l => mp q (vq l)).length ≤ 1000000000000 ∧ ∀ x ∈ (mp l fun l => mp q (vq l)), x.length ≤ 1000000000000 ∧ ∀ y ∈ x, y.length ≤ 1000000000000 := fun e => by rw [e]; exact hvs
      repeat' first
        | apply WP.seq
        | (apply WP.region (E := ePassBegins) mixed tbl_ok; conv => whnf)
        | (apply WP.cond; conv => whnf)
        | (apply WP.skip; conv => whnf)
        | (apply WP.exit; conv => whnf)
        | apply WP.block
        | (apply ex_at (hkat (by omega)); conv => whnf)
        | (apply ex_at (hvat (by omega)); conv => whnf)
        | (rw [hcr]; conv => whnf)
        | (rw [hkt]; conv => whnf)
        | (rw [hvt]; conv => whnf)
        | (rw [fz_rows3]; conv => whnf)
        | (rw [decide_eq_true (hlL (by omega)).1]; conv => whnf)
        | (apply reg_and; (· kernel_rfl); conv => whnf)
        | (apply ex_and; (· with_reducible exact awake8_ok); conv => whnf)
        | (apply ex_and; (· with_reducible exact same8_ok (hsk (by omega)).1 (hsk (by omega)).2); conv => whnf)
        | (apply ex_ilen; conv => whnf)
        | (apply ex_glen; conv => whnf)
        | (apply ex_i64; (· omega); conv => whnf)
        | (apply ex_eq; conv => whnf)
        | (with_reducible apply gd_t; conv => whnf)
        | (apply gd_br)
        | (apply nd_gl; (· omega); conv => whnf)
        | (apply And.intro; (· first | with_reducible rfl | exact trivial | exact Or.inl ⟨rfl, rfl⟩ | exact Or.inr rfl | decide | omega | (apply Nat.le_of_ble_eq_true; rfl) | (dsimp only; omega) | (simp only [ints_len, gl_len, mp_len, List.length_cons, List.length_nil, List.length_drop, List.length_take]; omega)); conv => whnf)
        | apply br_not
        | (apply br_t; conv => whnf)
        | (apply br_yes; (· omega); conv => whnf)
        | (apply br_dec <;> intro hbr <;> (first | rw [decide_eq_true hbr] | rw [decide_eq_false hbr] | skip) <;> conv => whnf)
        | (rw [fz_rows]; conv => whnf)
        | fail
      · refine Exists.intro (l + 1) (And.intro (And.intro ?_ ?_) ?_)
        · first | omega | skip
        · first | omega | skip
        conv => whnf
        repeat' first
          | apply True.intro
          | (apply ptr_and; (· kernel_rfl); conv => whnf)
          | omega
          | (apply Or.inr; rfl)
          | (apply Or.inl; rfl)
          | (apply or_row; (· rfl); (· rfl); rfl)
          | (apply or_row; (· rfl); (· rfl); apply gl_mp; subst_vars; rfl)
          | (apply And.intro <;> conv => whnf)
          | fail
      all_goals conv => whnf
      repeat' first
        | (apply WP.ret; conv => whnf)
        | (rw [fz_rows3]; conv => whnf)
        | (rw [decide_eq_true (hlL (by omega)).2]; conv => whnf)
        | (apply reg_and; (· kernel_rfl); conv => whnf)
        | (apply ex_and; (· with_reducible exact same8_ok (hsv (by omega)).1 (hsv (by omega)).2); conv => whnf)
        | (with_reducible apply gd_t; conv => whnf)
        | (apply And.intro; (· first | with_reducible rfl | exact trivial | exact Or.inl ⟨rfl, rfl⟩ | exact Or.inr rfl | decide | omega | (apply Nat.le_of_ble_eq_true; rfl) | (dsimp only; omega) | (simp only [ints_len, gl_len, mp_len, List.length_cons, List.length_nil, List.length_drop, List.length_take]; omega)); conv => whnf)
        | fail
    · clear hg
      refine impl_of (fn := Try.f4) tbl_ok (by kernel_rfl) (by kernel_rfl) rfl ⟨by simp [Try.f4], by decide⟩ rfl fun W0 => ?_
      repeat' first
        | apply WP.seq
        | (apply WP.region (E := ePassBegins) mixed tbl_ok; conv => whnf)
        | (apply WP.cond; conv => whnf)
        | (apply WP.ret; conv => whnf)
        | (apply reg_and; (· kernel_rfl); conv => whnf)
        | (apply ex_and; (· with_reducible exact hF); conv => whnf)
        | (apply ex_and; (· with_reducible exact hM); conv => whnf)
        | (apply ex_and; (· with_reducible exact hsm); conv => whnf)
        | (apply ex_and; (· with_reducible exact hP); conv => whnf)
        | (apply ex_and; (· with_reducible exact awake8_ok); conv => whnf)
        | (apply ex_ilen; conv => whnf)
        | (apply ex_eq; conv => whnf)
        | (with_reducible apply gd_t; conv => whnf)
        | (with_reducible apply gd_f; conv => whnf)
        | (apply gd_br)
        | (apply And.intro; (· first | with_reducible rfl | exact trivial | exact Or.inl ⟨rfl, rfl⟩ | exact Or.inr rfl | decide | omega | (apply Nat.le_of_ble_eq_true; rfl) | (dsimp only; omega) | (simp only [ints_len, gl_len, mp_len, List.length_cons, List.length_nil, List.length_drop, List.length_take]; omega)); conv => whnf)
        | apply br_not
        | (apply br_t; conv => whnf)
        | (apply br_f; conv => whnf)
        | (apply br_yes; (· omega); conv => whnf)
        | (apply br_no; (· omega); conv => whnf)
        | (apply br_dec <;> intro hbr <;> (first | rw [decide_eq_true hbr] | rw [decide_eq_false hbr] | skip) <;> conv => whnf)
        | fail
      all_goals exact absurd ⟨by omega, by omega, by omega, by omega⟩ hok
  · have hM := make_err (c := c) (seed := seed) hsh
    generalize shp c = k at *
    refine impl_of (fn := Try.f4) tbl_ok (by kernel_rfl) (by kernel_rfl) rfl ⟨by simp [Try.f4], by decide⟩ rfl fun W0 => ?_
    repeat' first
      | apply WP.seq
      | (apply WP.region (E := ePassBegins) mixed tbl_ok; conv => whnf)
      | (apply WP.cond; conv => whnf)
      | (apply WP.ret; conv => whnf)
      | (apply reg_and; (· kernel_rfl); conv => whnf)
      | (apply ex_and; (· with_reducible exact hF); conv => whnf)
      | (apply ex_and; (· with_reducible exact hM); conv => whnf)
      | (apply ex_and; (· with_reducible exact awake8_ok); conv => whnf)
      | (apply ex_eq; conv => whnf)
      | (with_reducible apply gd_t; conv => whnf)
      | (apply gd_br)
      | (apply And.intro; (· first | with_reducible rfl | exact trivial | exact Or.inl ⟨rfl, rfl⟩ | exact Or.inr rfl | decide | omega | (apply Nat.le_of_ble_eq_true; rfl) | (dsimp only; omega) | (simp only [ints_len, gl_len, mp_len, List.length_cons, List.length_nil, List.length_drop, List.length_take]; omega)); conv => whnf)
      | apply br_not
      | (apply br_t; conv => whnf)
      | (apply br_no; (· omega); conv => whnf)
      | fail
end Go.Proofs.Ytcngjnhdemjomaa.T
