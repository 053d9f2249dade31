/- What functions of the program come to, on trees. No condition but those that the theorems name. -/
import Derived.Test.YtcngjnhdemjomaaPB7
namespace Go.Proofs.Ytcngjnhdemjomaa.T
set_option linter.unusedSimpArgs false
set_option linter.unusedVariables false
open Go
set_option linter.unusedVariables false
set_option maxHeartbeats 8000000
set_option maxRecDepth 100000
/-- All noughts in the last matrix. -/
def noughtW (w : Wts) : Wts := ⟨w.embed, w.blocks, w.last, ⟨w.out.r, w.out.c, mp w.out.d.length fun _ => 0⟩⟩
theorem noughtW_i {w : Wts} (h : WtsI w) : WtsI (noughtW w) := ⟨h.embed, h.blocks, h.last, mp_i32s fun _ _ => ⟨by decide, by decide⟩⟩
theorem growN_zero : ∀ n : Nat, growN (fun _ => 0) n = 0
  | 0 => rfl
  | n + 1 => by unfold growN; rw [growN_zero n]; decide
theorem nought_likes {V D : Nat} {w : Wts} {x : List Int} : sLikes V D (noughtW w) x = mp V fun _ => 0 := by
  unfold sLikes sApply
  refine mp_congr fun i hi => ?_
  unfold sDot
  rw [growN_congr (g := fun _ => 0) fun j hj => ?_, growN_zero]
  · decide
  · rw [sRow_len] at hj
    unfold sRow
    rw [mp_get hj]
    have e : (noughtW w).out.d.getD (i * D + j) 0 = 0 := by
      show (mp w.out.d.length fun _ => (0 : Int)).getD _ 0 = 0
      rw [List.getD_eq_getElem?_getD]
      unfold mp
      by_cases h : i * D + j < w.out.d.length
      · simp [h]
      · simp [h]
    rw [e, Int.zero_mul]
abbrev wtsO (w : Wts) (d : List Int) : AV := .agg [.i .i64 w.embed.r, .i .i64 w.embed.c, rowA none w.embed.d, .sl none none 20 true (gl (blkA none) w.blocks), rowA none w.last, .i .i64 w.out.r, .i .i64 w.out.c, rowA none d]
def ePassNought : Env := ⟨tbl, [], [], [], [(0, [2, 3, 4, 4999, 4000, 4001, 4002, 4003, 4004, 5999, 5000, 5001, 5002, 5003, 5004, 5005, 5006, 5007]), (1, [2, 3, 4, 4999, 4000, 4001, 4002, 4003, 4004, 5999, 5000, 5001, 5002, 5003, 5004, 5005, 5006, 5007]), (2, [2, 3, 7, 4999, 4000, 4001, 4002, 4003, 4004, 8999, 8000, 8001, 8002, 8003, 8004, 8005, 8006, 8007]), (3, [2, 3, 7, 22, 23, 4999, 4000, 4001, 4002, 4003, 4004, 8999, 8000, 8001, 8002, 8003, 8004, 8005, 8006, 8007]), (4, [2, 3, 7, 22, 23, 24, 4999, 4000, 4001, 4002, 4003, 4004, 8999, 8000, 8001, 8002, 8003, 8004, 8005, 8006, 8007]), (5, [2, 3, 7, 8, 22, 23, 4999, 4000, 4001, 4002, 4003, 4004, 8999, 8000, 8001, 8002, 8003, 8004, 8005, 8006, 8007]), (6, [2, 3, 7, 22, 23, 4999, 4000, 4001, 4002, 4003, 4004, 8999, 8000, 8001, 8002, 8003, 8004, 8005, 8006, 8007]), (7, [2, 3, 7, 22, 23, 4999, 4000, 4001, 4002, 4003, 4004, 8999, 8000, 8001, 8002, 8003, 8004, 8005, 8006, 8007]), (8, [2, 3, 9, 10, 11, 4999, 4000, 4001, 4002, 4003, 4004, 11999, 11000, 11001]), (9, [2, 3, 9, 10, 46, 4999, 4000, 4001, 4002, 4003, 4004, 11999, 11000, 11001]), (10, [6]), (11, [2, 3, 9, 10, 48, 49, 50, 4999, 4000, 4001, 4002, 4003, 4004, 11999, 11000, 11001]), (12, [2, 3, 9, 10, 48, 49, 50, 51, 4999, 4000, 4001, 4002, 4003, 4004, 11999, 11000, 11001]), (13, [2, 3, 9, 10, 13, 48, 49, 50, 4999, 4000, 4001, 4002, 4003, 4004, 11999, 11000, 11001]), (14, [2, 3, 9, 10, 48, 49, 50, 55, 4999, 4000, 4001, 4002, 4003, 4004, 11999, 11000, 11001]), (15, [6]), (16, [2, 3, 9, 10, 48, 49, 50, 4999, 4000, 4001, 4002, 4003, 4004, 11999, 11000, 11001]), (17, [6])]⟩
theorem passnought_law (c : Cfg) (w : Wts) (t : List Int) (hw : WtsW w) (ht : IntsW t) : Impl Try.prog 6 [cfgA c, wtsA none none w, .sl none none 1 false (ints .i64 t)] (.b true) := by
  have hT := told_ok hw.s
  have hi := cutW_i hw.i
  have hs := cutW_s w
  have hl5 := cutW_l w
  have hO := of6_ok hs (by omega)
  rw [cutW_cut] at hO
  have hout := take_le w.out.d 2000 (by decide)
  have hout2 : (cutW 100 5 w).out.d.length ≤ 2000 := by show (w.out.d.take 2000).length ≤ 2000; rw [List.length_take]; omega
  generalize cutW 100 5 w = w1 at *
  have hF : ∀ {no : Option Bool}, Impl Try.prog 16 [.sl none no 1 false (ints .i64 t), .i .i64 6] (.sl (some 0) none 1 false (ints .i64 (t.take 6))) := fun {no} => few8_ok 6 ht.1 (by omega)
  have htl : (t.take 6).length ≤ 6 := by rw [List.length_take]; omega
  generalize t.take 6 = t1 at *
  obtain ⟨sc, hsm, h0, h1⟩ : ∃ (sc : Int), Impl Try.prog 15 [cfgA c] (.i .i64 sc) ∧ (sc = 0 ∨ sc = 1) ∧ True := by
    have := small_ok c
    by_cases h : small c
    · rw [if_pos h] at this; exact ⟨1, this, .inr rfl, trivial⟩
    · rw [if_neg h] at this; exact ⟨0, this, .inl rfl, trivial⟩
  refine impl_of (fn := Try.f6) tbl_ok (by kernel_rfl) (by kernel_rfl) rfl ⟨by simp [Try.f6], by decide⟩ rfl fun W0 => ?_
  repeat' first
    | apply WP.seq
    | (apply WP.region (E := ePassNought) mixed tbl_ok; conv => whnf)
    | apply WP.block
    | (rw [fz_blks]; conv => whnf)
    | (apply reg_and; (· kernel_rfl); conv => whnf)
    | (apply ex_and; (· with_reducible exact hT); conv => whnf)
    | (apply ex_and; (· with_reducible exact hO); conv => whnf)
    | (apply ex_and; (· with_reducible exact hF); conv => whnf)
    | (apply ex_ilen; conv => whnf)
    | fail
  have e0 : (mp w1.out.d.length fun j => if j < 0 then 0 else w1.out.d.getD j 0) = w1.out.d := (mp_congr fun j hj => by rw [if_neg (by omega)]).trans (mp_self w1.out.d)
  refine WP.loopM [8, 23, 24, 8007] (fun i : Nat => [(23, .i .i64 i), (8007, .sl (some 0) none 1 false (ints .i32 (mp w1.out.d.length fun j => if j < i then 0 else w1.out.d.getD j 0)))]) (fun i => i ≤ w1.out.d.length) (fun i => w1.out.d.length - i) 0 ?_
  conv => whnf
  refine And.intro (And.intro ?_ ?_) (fun i hi => ?_)
  · omega
  · conv => whnf
    repeat' first
      | apply True.intro
      | (apply ptr_and; (· kernel_rfl); conv => whnf)
      | omega
      | (apply Or.inr; rfl)
      | (apply or_row; (· rfl); (· rfl); rfl)
      | (apply And.intro <;> conv => whnf)
      | (rw [e0]; apply or_row <;> rfl)
      | fail
  conv => whnf
  clear e0
  have hlen : (mp w1.out.d.length fun j => if j < i then 0 else w1.out.d.getD j 0).length = w1.out.d.length := mp_len _ _
  repeat' first
    | apply WP.seq
    | (apply WP.region (E := ePassNought) mixed tbl_ok; conv => whnf)
    | (apply WP.cond; conv => whnf)
    | (apply WP.skip; conv => whnf)
    | (apply WP.exit; conv => whnf)
    | apply WP.block
    | (apply reg_and; (· kernel_rfl); conv => whnf)
    | (apply ex_i64; (· omega); conv => whnf)
    | (apply ex_ints; (· omega); conv => whnf)
    | (apply ex_eq; conv => whnf)
    | (apply nd_ints; (· omega); conv => whnf)
    | (apply And.intro; (· first | with_reducible rfl | exact trivial | exact Or.inl ⟨rfl, rfl⟩ | exact Or.inr rfl | decide | omega | (apply Nat.le_of_ble_eq_true; rfl) | (dsimp only; omega) | (simp only [ints_len, gl_len, mp_len, List.length_cons, List.length_nil, List.length_drop, List.length_take]; omega)); conv => whnf)
    | (apply br_dec <;> intro hbr <;> (first | rw [decide_eq_true hbr] | rw [decide_eq_false hbr] | skip) <;> conv => whnf)
    | fail
  · refine Exists.intro (i + 1) (And.intro (And.intro ?_ ?_) ?_)
    · first | omega | skip
    · first | omega | skip
    conv => whnf
    repeat' first
      | apply True.intro
      | (apply ptr_and; (· kernel_rfl); conv => whnf)
      | omega
      | (apply Or.inr; rfl)
      | (apply or_row; (· rfl); (· rfl); rfl)
      | (apply And.intro <;> conv => whnf)
      | fail
    refine or_row rfl rfl ?_
    rw [Int.toNat_natCast]
    refine ints_put fun j hj => ?_
    by_cases h1 : j = i
    · subst h1; rw [if_pos (by omega), if_pos rfl]
    · rw [if_neg h1]
      by_cases h2 : j < i
      · rw [if_pos h2, if_pos (by omega)]
      · rw [if_neg h2, if_neg (by omega)]
  have e : i = w1.out.d.length := by omega
  subst e
  have e2 : (mp w1.out.d.length fun j => if j < w1.out.d.length then 0 else w1.out.d.getD j 0) = mp w1.out.d.length fun _ => 0 := mp_congr fun j hj => by rw [if_pos hj]
  rw [e2]
  clear e2 hlen
  have hnl : (noughtW w1).blocks.length ≤ 5 := hl5
  by_cases hk : chkW c (noughtW w1) = 0
  · by_cases hp : prm c.vocab t1 = 0
    · obtain ⟨V, D, n, H, L, s, hc⟩ := shp_good (chkW_zero hk).1
      have hg := wts_good hc (chkW_zero hk).2 (noughtW_i (by assumption))
      have hFu := fun {nt : Option Bool} => full_good (nt := nt) hc hg hp
      have hz : sFull V D H s (noughtW w1) t1 = mp V fun _ => 0 := nought_likes
      have hkl : (sKeys D H s (noughtW w1) t1).length = L := by unfold sKeys; rw [mp_len]; exact hg.layers
      have hk0 : (sKeys D H s (noughtW w1) t1).getD 0 [] = mp t1.length (kF D H s (noughtW w1) (fB D (noughtW w1) t1) 0) := by
        have := hg.layers
        have := hc.gl
        unfold sKeys mp
        rw [List.getD_eq_getElem?_getD, List.getElem?_map, List.getElem?_range (by omega)]; rfl
      have hat : (gl (rowsA none) (sKeys D H s (noughtW w1) t1))[(0 : Int).toNat]? = some (rowsA none ((sKeys D H s (noughtW w1) t1).getD 0 [])) := gl_at (i := 0) [] (by have := hc.gl; omega)
      have h0l : ((sKeys D H s (noughtW w1) t1).getD 0 []).length = t1.length := by rw [hk0, mp_len]
      rw [hz] at hFu
      have hFu : ∀ {nt : Option Bool}, Impl Try.prog 17 [cfgA c, wtsO w1 (mp w1.out.d.length fun _ => 0), .sl none nt 1 false (ints .i64 t1)] (.tup [rowA (some 0) (mp V fun _ => 0), .agg [rows3 (some 0) (sKeys D H s (noughtW w1) t1), rows3 (some 0) (sVals D H s (noughtW w1) t1)], .i .i64 0]) := hFu
      generalize (sKeys D H s (noughtW w1) t1).getD 0 [] = k0 at *
      generalize sKeys D H s (noughtW w1) t1 = ks at *
      generalize sVals D H s (noughtW w1) t1 = vs at *
      have hml : (mp V fun _ => (0 : Int)).length = V := mp_len _ _
      obtain ⟨g1, g2, _, _, g5, _⟩ := hc
      repeat' first
        | apply WP.seq
        | (apply WP.region (E := ePassNought) mixed tbl_ok; conv => whnf)
        | (apply WP.cond; conv => whnf)
        | (apply WP.skip; conv => whnf)
        | (apply WP.ret; conv => whnf)
        | apply WP.block
        | (rw [fz_blks]; conv => whnf)
        | (apply reg_and; (· kernel_rfl); conv => whnf)
        | (apply ex_and; (· with_reducible exact hFu); conv => whnf)
        | (apply ex_and; (· with_reducible exact hsm); conv => whnf)
        | (apply ex_and; (· with_reducible exact awake8_ok); conv => whnf)
        | (apply ex_ilen; conv => whnf)
        | (apply ex_eq; conv => whnf)
        | (apply gd_br)
        | (apply And.intro; (· first | with_reducible rfl | exact trivial | exact Or.inl ⟨rfl, rfl⟩ | exact Or.inr rfl | decide | omega | (apply Nat.le_of_ble_eq_true; rfl) | (dsimp only; omega) | (simp only [ints_len, gl_len, mp_len, List.length_cons, List.length_nil, List.length_drop, List.length_take]; omega)); conv => whnf)
        | apply br_not
        | (apply br_t; conv => whnf)
        | (apply br_dec <;> intro hbr <;> (first | rw [decide_eq_true hbr] | rw [decide_eq_false hbr] | skip) <;> conv => whnf)
        | fail
      refine WP.loopM [13, 50, 51, 55] (fun j : Nat => [(50, .i .i64 j)]) (fun j => j ≤ V) (fun j => V - j) 0 ?_
      conv => whnf
      refine And.intro (And.intro ?_ ?_) (fun j hj => ?_)
      · first | omega | trivial | skip
      · conv => whnf
        repeat' first
          | apply True.intro
          | (apply ptr_and; (· kernel_rfl); conv => whnf)
          | omega
          | (apply Or.inr; rfl)
          | (apply or_row; (· rfl); (· rfl); rfl)
          | (apply And.intro <;> conv => whnf)
          | (apply Nat.le_of_ble_eq_true; rfl)
          | fail
      conv => whnf
      have hz0 : j < V → (mp V fun _ => (0 : Int)).getD ((j : Int).toNat) 0 = 0 := fun h => by rw [Int.toNat_natCast, mp_get h]
      repeat' first
        | apply WP.seq
        | (apply WP.region (E := ePassNought) mixed tbl_ok; conv => whnf)
        | (apply WP.cond; conv => whnf)
        | (apply WP.skip; conv => whnf)
        | (apply WP.ret; conv => whnf)
        | (apply WP.exit; conv => whnf)
        | apply WP.block
        | (rw [hz0 (by omega)]; conv => whnf)
        | (apply ex_at hat; conv => whnf)
        | (apply reg_and; (· kernel_rfl); conv => whnf)
        | (apply ex_and; (· with_reducible exact awake8_ok); conv => whnf)
        | (apply ex_ilen; conv => whnf)
        | (apply ex_glen; conv => whnf)
        | (apply ex_i64; (· omega); conv => whnf)
        | (apply ex_ints; (· omega); conv => whnf)
        | (apply ex_eq; conv => whnf)
        | (with_reducible apply gd_t; conv => whnf)
        | (apply gd_br)
        | (apply nd_ints; (· omega); conv => whnf)
        | (apply nd_gl; (· omega); conv => whnf)
        | (apply And.intro; (· first | with_reducible rfl | exact trivial | exact Or.inl ⟨rfl, rfl⟩ | exact Or.inr rfl | decide | omega | (apply Nat.le_of_ble_eq_true; rfl) | (dsimp only; omega) | (simp only [ints_len, gl_len, mp_len, List.length_cons, List.length_nil, List.length_drop, List.length_take]; omega)); conv => whnf)
        | apply br_not
        | (apply br_t; conv => whnf)
        | (apply br_yes; (· omega); conv => whnf)
        | (apply br_dec <;> intro hbr <;> (first | rw [decide_eq_true hbr] | rw [decide_eq_false hbr] | skip) <;> conv => whnf)
        | fail
      · refine Exists.intro (j + 1) (And.intro (And.intro ?_ ?_) ?_)
        · first | omega | skip
        · first | omega | skip
        conv => whnf
        repeat' first
          | apply True.intro
          | (apply ptr_and; (· kernel_rfl); conv => whnf)
          | omega
          | (apply Or.inr; rfl)
          | (apply or_row; (· rfl); (· rfl); rfl)
          | (apply And.intro <;> conv => whnf)
          | (apply Nat.le_of_ble_eq_true; rfl)
          | fail
      · rw [h0l]; exact beq_self_eq_true _
    · have hFu : ∀ {nt : Option Bool}, Impl Try.prog 17 [cfgA c, wtsO w1 (mp w1.out.d.length fun _ => 0), .sl none nt 1 false (ints .i64 t1)] (.tup [rowA (some 0) [], .agg [rows3 (some 0) [], rows3 (some 0) []], .i .i64 (prm c.vocab t1)]) := fun {nt} => full_prm (w := noughtW w1) (by omega) (by omega) hk hp
      generalize prm c.vocab t1 = k at *
      repeat' first
        | apply WP.seq
        | (apply WP.region (E := ePassNought) mixed tbl_ok; conv => whnf)
        | (apply WP.cond; conv => whnf)
        | (apply WP.ret; conv => whnf)
        | (rw [fz_blks]; conv => whnf)
        | (apply reg_and; (· kernel_rfl); conv => whnf)
        | (apply ex_and; (· with_reducible exact hFu); conv => whnf)
        | (apply ex_and; (· with_reducible exact awake8_ok); conv => whnf)
        | (apply ex_eq; conv => whnf)
        | (apply gd_br)
        | (apply And.intro; (· first | with_reducible rfl | exact trivial | exact Or.inl ⟨rfl, rfl⟩ | exact Or.inr rfl | decide | omega | (apply Nat.le_of_ble_eq_true; rfl) | (dsimp only; omega) | (simp only [ints_len, gl_len, mp_len, List.length_cons, List.length_nil, List.length_drop, List.length_take]; omega)); conv => whnf)
        | apply br_not
        | (apply br_t; conv => whnf)
        | (apply br_no; (· omega); conv => whnf)
        | fail
  · have hFu : ∀ {nt : Option Bool}, Impl Try.prog 17 [cfgA c, wtsO w1 (mp w1.out.d.length fun _ => 0), .sl none nt 1 false (ints .i64 t1)] (.tup [rowA (some 0) [], .agg [rows3 (some 0) [], rows3 (some 0) []], .i .i64 (chkW c (noughtW w1))]) := fun {nt} => full_err (w := noughtW w1) (by omega) hk
    generalize chkW c (noughtW w1) = k at *
    repeat' first
      | apply WP.seq
      | (apply WP.region (E := ePassNought) mixed tbl_ok; conv => whnf)
      | (apply WP.cond; conv => whnf)
      | (apply WP.ret; conv => whnf)
      | (rw [fz_blks]; conv => whnf)
      | (apply reg_and; (· kernel_rfl); conv => whnf)
      | (apply ex_and; (· with_reducible exact hFu); conv => whnf)
      | (apply ex_and; (· with_reducible exact awake8_ok); conv => whnf)
      | (apply ex_eq; conv => whnf)
      | (apply gd_br)
      | (apply And.intro; (· first | with_reducible rfl | exact trivial | exact Or.inl ⟨rfl, rfl⟩ | exact Or.inr rfl | decide | omega | (apply Nat.le_of_ble_eq_true; rfl) | (dsimp only; omega) | (simp only [ints_len, gl_len, mp_len, List.length_cons, List.length_nil, List.length_drop, List.length_take]; omega)); conv => whnf)
      | apply br_not
      | (apply br_t; conv => whnf)
      | (apply br_no; (· omega); conv => whnf)
      | fail
end Go.Proofs.Ytcngjnhdemjomaa.T
