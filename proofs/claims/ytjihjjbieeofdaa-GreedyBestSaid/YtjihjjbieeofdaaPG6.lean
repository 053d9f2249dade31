/- What functions of the program come to, on trees. No condition but those that the theorems name. -/
import Derived.Test.YtjihjjbieeofdaaPG5
namespace Go.Proofs.Ytjihjjbieeofdaa.T
set_option linter.unusedSimpArgs false
set_option linter.unusedVariables false
open Go
set_option linter.unusedVariables false
set_option maxHeartbeats 8000000
set_option maxRecDepth 100000
theorem mp_take {α : Type} {n i : Nat} {F : Nat → α} (h : i ≤ n) : (mp n F).take i = mp i F := by
  unfold mp
  rw [← List.map_take, List.take_range, Nat.min_eq_left h]
def sK (D : Nat) (b : Blk) (x : List Int) : List Int := sApply D D b.k.d (sNorm x b.first)
def sV (D : Nat) (b : Blk) (x : List Int) : List Int := sApply D D b.v.d (sNorm x b.first)
def sX (D H s : Nat) (b : Blk) (x : List Int) (ks vs : List (List Int)) : List Int := (sOne D H s b x ks vs).x
def lx (D H s : Nat) (b : Blk) (F : Nat → List Int) (i : Nat) : List Int := sX D H s b (F i) (mp i fun j => sK D b (F j)) (mp i fun j => sV D b (F j))
theorem lx_len {D H s : Nat} {b : Blk} {F : Nat → List Int} {i : Nat} : (lx D H s b F i).length = (F i).length := by
  unfold lx sX sOne
  dsimp only
  rw [sHalf_len, sPlus_len]
theorem lx_i32 (D H s : Nat) (b : Blk) (F : Nat → List Int) (i : Nat) : I32s (lx D H s b F i) := sHalf_i32 _ _ _ _
def eLayer : Env := ⟨tbl, [98], [59, 63, 119], [], [(0, [2, 3, 4, 6, 7, 8, 4999, 4000, 4001, 4002, 4003, 4004, 5999, 5000, 5001, 5002, 5003, 5004, 5005, 5006, 5007, 5008, 5009, 5010, 5011, 5012, 5013, 5014, 5015, 5016, 5017, 5018, 5019]), (1, [2, 3, 4, 6, 7, 8, 29, 30, 31, 4999, 4000, 4001, 4002, 4003, 4004, 5999, 5000, 5001, 5002, 5003, 5004, 5005, 5006, 5007, 5008, 5009, 5010, 5011, 5012, 5013, 5014, 5015, 5016, 5017, 5018, 5019]), (2, [2, 3, 4, 6, 7, 8, 29, 30, 31, 32, 4999, 4000, 4001, 4002, 4003, 4004, 5999, 5000, 5001, 5002, 5003, 5004, 5005, 5006, 5007, 5008, 5009, 5010, 5011, 5012, 5013, 5014, 5015, 5016, 5017, 5018, 5019]), (3, [2, 3, 4, 6, 7, 8, 10, 29, 30, 31, 4999, 4000, 4001, 4002, 4003, 4004, 5999, 5000, 5001, 5002, 5003, 5004, 5005, 5006, 5007, 5008, 5009, 5010, 5011, 5012, 5013, 5014, 5015, 5016, 5017, 5018, 5019]), (4, [2, 3, 4, 6, 7, 8, 11, 29, 30, 31, 4999, 4000, 4001, 4002, 4003, 4004, 5999, 5000, 5001, 5002, 5003, 5004, 5005, 5006, 5007, 5008, 5009, 5010, 5011, 5012, 5013, 5014, 5015, 5016, 5017, 5018, 5019]), (5, [2, 3, 4, 6, 7, 8, 11, 13, 29, 30, 31, 4999, 4000, 4001, 4002, 4003, 4004, 5999, 5000, 5001, 5002, 5003, 5004, 5005, 5006, 5007, 5008, 5009, 5010, 5011, 5012, 5013, 5014, 5015, 5016, 5017, 5018, 5019]), (6, [2, 3, 4, 6, 7, 8, 13, 15, 29, 30, 31, 4999, 4000, 4001, 4002, 4003, 4004, 5999, 5000, 5001, 5002, 5003, 5004, 5005, 5006, 5007, 5008, 5009, 5010, 5011, 5012, 5013, 5014, 5015, 5016, 5017, 5018, 5019]), (7, [2, 3, 4, 6, 7, 8, 29, 30, 31, 4999, 4000, 4001, 4002, 4003, 4004, 5999, 5000, 5001, 5002, 5003, 5004, 5005, 5006, 5007, 5008, 5009, 5010, 5011, 5012, 5013, 5014, 5015, 5016, 5017, 5018, 5019]), (8, [2, 3, 4, 6, 7, 8, 29, 30, 31, 4999, 4000, 4001, 4002, 4003, 4004, 5999, 5000, 5001, 5002, 5003, 5004, 5005, 5006, 5007, 5008, 5009, 5010, 5011, 5012, 5013, 5014, 5015, 5016, 5017, 5018, 5019]), (9, [3, 4, 6, 7, 8, 65, 66, 67, 4999, 4000, 4001, 4002, 4003, 4004, 5999, 5000, 5001, 5002, 5003, 5004, 5005, 5006, 5007, 5008, 5009, 5010, 5011, 5012, 5013, 5014, 5015, 5016, 5017, 5018, 5019]), (10, [3, 4, 6, 7, 8, 65, 66, 67, 68, 4999, 4000, 4001, 4002, 4003, 4004, 5999, 5000, 5001, 5002, 5003, 5004, 5005, 5006, 5007, 5008, 5009, 5010, 5011, 5012, 5013, 5014, 5015, 5016, 5017, 5018, 5019]), (11, [3, 4, 6, 7, 8, 17, 18, 65, 66, 67, 4999, 4000, 4001, 4002, 4003, 4004, 5999, 5000, 5001, 5002, 5003, 5004, 5005, 5006, 5007, 5008, 5009, 5010, 5011, 5012, 5013, 5014, 5015, 5016, 5017, 5018, 5019]), (12, [3, 4, 6, 7, 8, 17, 18, 19, 65, 66, 67, 4999, 4000, 4001, 4002, 4003, 4004, 5999, 5000, 5001, 5002, 5003, 5004, 5005, 5006, 5007, 5008, 5009, 5010, 5011, 5012, 5013, 5014, 5015, 5016, 5017, 5018, 5019]), (13, [3, 4, 6, 7, 8, 17, 18, 21, 65, 66, 67, 4999, 4000, 4001, 4002, 4003, 4004, 5999, 5000, 5001, 5002, 5003, 5004, 5005, 5006, 5007, 5008, 5009, 5010, 5011, 5012, 5013, 5014, 5015, 5016, 5017, 5018, 5019]), (14, [3, 4, 6, 7, 8, 18, 23, 65, 66, 67, 4999, 4000, 4001, 4002, 4003, 4004, 5999, 5000, 5001, 5002, 5003, 5004, 5005, 5006, 5007, 5008, 5009, 5010, 5011, 5012, 5013, 5014, 5015, 5016, 5017, 5018, 5019]), (15, [3, 4, 6, 7, 8, 18, 25, 65, 66, 67, 4999, 4000, 4001, 4002, 4003, 4004, 5999, 5000, 5001, 5002, 5003, 5004, 5005, 5006, 5007, 5008, 5009, 5010, 5011, 5012, 5013, 5014, 5015, 5016, 5017, 5018, 5019]), (16, [3, 4, 6, 7, 8, 27, 65, 66, 67, 4999, 4000, 4001, 4002, 4003, 4004, 5999, 5000, 5001, 5002, 5003, 5004, 5005, 5006, 5007, 5008, 5009, 5010, 5011, 5012, 5013, 5014, 5015, 5016, 5017, 5018, 5019]), (17, [3, 4, 6, 7, 8, 65, 66, 67, 4999, 4000, 4001, 4002, 4003, 4004, 5999, 5000, 5001, 5002, 5003, 5004, 5005, 5006, 5007, 5008, 5009, 5010, 5011, 5012, 5013, 5014, 5015, 5016, 5017, 5018, 5019]), (18, [3, 4, 6, 7, 8, 65, 66, 67, 4999, 4000, 4001, 4002, 4003, 4004, 5999, 5000, 5001, 5002, 5003, 5004, 5005, 5006, 5007, 5008, 5009, 5010, 5011, 5012, 5013, 5014, 5015, 5016, 5017, 5018, 5019]), (19, [6, 7, 8])]⟩
theorem layer_ok {nr : Option Bool} {c : Cfg} {D H n s m : Nat} {b : Blk} {F : Nat → List Int} (hc : c.heads = n) (hn : 1 ≤ n ∧ n ≤ 4) (hns : n * s = D) (hD : 0 < D ∧ D ≤ 32) (hH : 0 < H ∧ H ≤ 128) (hb : BlkG D H b) (hm : 0 < m ∧ m ≤ 128) (hF : ∀ i, i < m → (F i).length = D ∧ I32s (F i)) : Impl Try.prog 66 [cfgA c, blkA none b, .sl none nr 1 true (gl (rowA none) (mp m F))] (.tup [.sl (some 0) none 1 true (gl (rowA none) (mp m (lx D H s b F))), .sl none none 1 true (gl (rowA none) (mp m fun i => sK D b (F i))), .sl none none 1 true (gl (rowA none) (mp m fun i => sV D b (F i)))]) := by
  obtain ⟨s1, s2⟩ := hb.first
  have hr : RowsN D (mp m F) := mp_rowsN hF
  have hml : (mp m F).length = m := mp_len _ _
  refine impl_of (fn := Try.f66) tbl_ok (by kernel_rfl) (by kernel_rfl) rfl ⟨by simp [Try.f66], by decide⟩ rfl fun W0 => ?_
  repeat' first
    | apply WP.seq
    | (apply WP.region (E := eLayer) mixed tbl_ok; conv => whnf)
    | apply WP.block
    | (apply reg_and; (· kernel_rfl); conv => whnf)
    | (apply ex_glen; conv => whnf)
    | fail
  refine WP.loopM [7, 8, 10, 11, 12, 13, 14, 15, 16, 31, 32, 35, 42, 49] (fun i : Nat => [(7, .sl (some 0) none 1 true (gl (rowA none) (mp i fun i => sK D b (F i)))), (8, .sl (some 0) none 1 true (gl (rowA none) (mp i fun i => sV D b (F i)))), (31, .i .i64 i)]) (fun i => i ≤ m) (fun i => m - i) 0 ?_
  conv => whnf
  refine And.intro (And.intro ?_ ?_) (fun i hi => ?_)
  · first | omega | trivial | skip
  · conv => whnf
    repeat' first
      | apply True.intro
      | (apply ptr_and; (· kernel_rfl); conv => whnf)
      | omega
      | (apply Or.inr; rfl)
      | (apply Or.inl; rfl)
      | (apply or_row; (· rfl); (· rfl); rfl)
      | (apply Or.inr; apply And.intro; (· rfl); rfl)
      | (apply And.intro <;> conv => whnf)
      | fail
  conv => whnf
  have hg : i < m → (mp m F).getD ((i : Int).toNat) [] = F i := fun hi => by rw [Int.toNat_natCast, mp_get hi]
  repeat' first
    | apply WP.seq
    | (apply WP.region (E := eLayer) mixed tbl_ok; conv => whnf)
    | (apply WP.cond; conv => whnf)
    | (apply WP.skip; conv => whnf)
    | (apply WP.exit; conv => whnf)
    | apply WP.block
    | (apply reg_and; (· kernel_rfl); conv => whnf)
    | (apply ex_and; (· with_reducible exact norm_ok (by omega) (by omega) (by omega) (by assumption) s2); conv => whnf)
    | (apply ex_and; (· with_reducible exact apply_okM hb.k (by rw [sNorm_len]; omega) (sNorm_i32 _ _)); conv => whnf)
    | (apply ex_and; (· with_reducible exact apply_okM hb.v (by rw [sNorm_len]; omega) (sNorm_i32 _ _)); conv => whnf)
    | (apply ex_glen; conv => whnf)
    | (apply ex_i64; (· omega); conv => whnf)
    | (apply ex_rows; (· assumption); (· omega); intro r hr hq; obtain ⟨hq1, hq2⟩ := hq; conv => whnf)
    | (apply ex_eq; conv => whnf)
    | (apply nd_gl; (· omega); conv => whnf)
    | (apply And.intro; (· first | with_reducible rfl | exact trivial | exact Or.inl ⟨rfl, rfl⟩ | exact Or.inr rfl | decide | omega | (apply Nat.le_of_ble_eq_true; rfl) | (dsimp only; omega) | (simp only [ints_len, gl_len, mp_len, List.length_cons, List.length_nil, List.length_drop, List.length_take]; omega)); conv => whnf)
    | (apply br_dec <;> intro hbr <;> (first | rw [decide_eq_true hbr] | rw [decide_eq_false hbr] | skip) <;> conv => whnf)
    | fail
  · rw [hg (by omega)] at hr
    subst hr
    refine Exists.intro (i + 1) (And.intro (And.intro ?_ ?_) ?_)
    · first | omega | skip
    · first | omega | skip
    conv => whnf
    repeat' first
      | apply True.intro
      | (apply ptr_and; (· kernel_rfl); conv => whnf)
      | omega
      | (apply Or.inr; rfl)
      | (apply Or.inl; rfl)
      | (apply or_row; (· rfl); (· rfl); rfl)
      | (apply or_row; (· rfl); (· rfl); apply gl_mp; subst_vars; rfl)
      | (apply And.intro <;> conv => whnf)
      | fail
  have e : i = m := by omega
  clear hg hi
  subst e
  refine WP.loopM [6, 7, 8, 17, 18, 19, 20, 21, 22, 23, 24, 25, 26, 27, 28, 67, 68, 72, 79, 86, 101, 108] (fun j : Nat => [(6, .sl (some 0) none 1 true (gl (rowA none) (mp j (lx D H s b F)))), (7, match j with | 0 => .sl (some 0) none 1 true (gl (rowA none) (mp i fun i => sK D b (F i))) | _ + 1 => .sl none none 1 true (gl (rowA none) (mp i fun i => sK D b (F i)))), (8, match j with | 0 => .sl (some 0) none 1 true (gl (rowA none) (mp i fun i => sV D b (F i))) | _ + 1 => .sl none none 1 true (gl (rowA none) (mp i fun i => sV D b (F i)))), (67, .i .i64 j)]) (fun j => j ≤ i) (fun j => i - j) 0 ?_
  conv => whnf
  refine And.intro (And.intro ?_ ?_) (fun j hj => ?_)
  · first | omega | trivial | skip
  · conv => whnf
    repeat' first
      | apply True.intro
      | (apply ptr_and; (· kernel_rfl); conv => whnf)
      | omega
      | (apply Or.inr; rfl)
      | (apply Or.inl; rfl)
      | (apply or_row; (· rfl); (· rfl); rfl)
      | (apply Or.inr; apply And.intro; (· rfl); rfl)
      | (apply And.intro <;> conv => whnf)
      | fail
  conv => whnf
  have hg : j < i → (mp i F).getD ((j : Int).toNat) [] = F j := fun hj => by rw [Int.toNat_natCast, mp_get hj]
  have hcut : ∀ G : Nat → List Int, j < i → ((mp i G).take ((j : Int) + 1).toNat).drop (Int.toNat 0) = mp j G ++ [G j] := fun G hj => by
    rw [show ((j : Int) + 1).toNat = j + 1 by omega, mp_take (by omega), mp_succ]; rfl
  have hat : j < i → ∀ {n1 n2 n3 : Option Bool} {x : List Int}, x.length = D → I32s x → Impl Try.prog 90 [.sl none n1 1 false (ints .i32 x), .sl none n2 1 true (gl (rowA none) ((mp j fun i => sK D b (F i)) ++ [sK D b (F j)])), .sl none n3 1 true (gl (rowA none) ((mp j fun i => sV D b (F i)) ++ [sV D b (F j)])), .i .i64 c.heads] (.tup [rowA (some 0) (sAttend x ((mp j fun i => sK D b (F i)) ++ [sK D b (F j)]) ((mp j fun i => sV D b (F i)) ++ [sV D b (F j)]) s), .i .i64 0]) := fun hj {n1 n2 n3 x} hx hxw => by
    rw [hc, ← mp_succ, ← mp_succ]
    refine attend_ok hn (by omega) (by rw [mp_len]; omega) (by omega) (by rw [mp_len, mp_len]) hxw ?_ ?_
    · rw [hx]; exact mp_rowsN fun k hk => ⟨sApply_len _ _ _ _, sApply_i32 _ _ _ _⟩
    · rw [hx]; exact mp_rowsN fun k hk => ⟨sApply_len _ _ _ _, sApply_i32 _ _ _ _⟩
  cases j with
  | zero =>
    conv => whnf
    repeat' first
      | apply WP.seq
      | (apply WP.region (E := eLayer) mixed tbl_ok; conv => whnf)
      | (apply WP.cond; conv => whnf)
      | (apply WP.skip; conv => whnf)
      | apply WP.block
      | (rw [hcut _ (by omega)]; conv => whnf)
      | (apply reg_and; (· kernel_rfl); conv => whnf)
      | (apply ex_and; (· with_reducible exact norm_ok (by omega) (by omega) (by omega) (by assumption) s2); conv => whnf)
      | (apply ex_and; (· with_reducible exact apply_okM hb.q (by rw [sNorm_len]; omega) (sNorm_i32 _ _)); conv => whnf)
      | (apply ex_and; (· with_reducible exact hat (by omega) (sApply_len _ _ _ _) (sApply_i32 _ _ _ _)); conv => whnf)
      | (apply ex_and; (· with_reducible exact apply_okM hb.o (by rw [sAttend_len, sApply_len]) (sAttend_i32 _ _ _ _)); conv => whnf)
      | (apply ex_and; (· with_reducible exact addv_ok (by rw [sApply_len]; omega) (by omega) (by assumption) (sApply_i32 _ _ _ _)); conv => whnf)
      | (apply ex_and; (· with_reducible exact half_ok (by omega) (by omega) hb (by rw [sPlus_len]; omega) (sPlus_i32 _ _)); conv => whnf)
      | (apply ex_i64; (· omega); conv => whnf)
      | (apply ex_rows; (· assumption); (· omega); intro r hr hq; obtain ⟨hq1, hq2⟩ := hq; conv => whnf)
      | (apply ex_eq; conv => whnf)
      | (apply nd_gl; (· omega); conv => whnf)
      | (apply And.intro; (· first | with_reducible rfl | exact trivial | exact Or.inl ⟨rfl, rfl⟩ | exact Or.inr rfl | decide | omega | (apply Nat.le_of_ble_eq_true; rfl) | (dsimp only; omega) | (simp only [ints_len, gl_len, mp_len, List.length_cons, List.length_nil, List.length_drop, List.length_take]; omega)); conv => whnf)
      | (apply br_yes; (· omega); conv => whnf)
      | rw [gl_cut]
      | (rw [fz_rows]; conv => whnf)
      | fail
    rw [hg (by omega)] at hr
    subst hr
    refine Exists.intro (0 + 1) (And.intro (And.intro ?_ ?_) ?_)
    · first | omega | skip
    · first | omega | skip
    conv => whnf
    repeat' first
      | apply True.intro
      | (apply ptr_and; (· kernel_rfl); conv => whnf)
      | omega
      | (apply Or.inr; rfl)
      | (apply Or.inl; rfl)
      | (apply or_row; (· rfl); (· rfl); rfl)
      | (apply And.intro <;> conv => whnf)
      | fail
  | succ j =>
    conv => whnf
    repeat' first
      | apply WP.seq
      | (apply WP.region (E := eLayer) mixed tbl_ok; conv => whnf)
      | (apply WP.cond; conv => whnf)
      | (apply WP.skip; conv => whnf)
      | (apply WP.ret; conv => whnf)
      | (apply WP.exit; conv => whnf)
      | apply WP.block
      | (rw [hcut _ (by omega)]; conv => whnf)
      | (apply reg_and; (· kernel_rfl); conv => whnf)
      | (apply ex_and; (· with_reducible exact norm_ok (by omega) (by omega) (by omega) (by assumption) s2); conv => whnf)
      | (apply ex_and; (· with_reducible exact apply_okM hb.q (by rw [sNorm_len]; omega) (sNorm_i32 _ _)); conv => whnf)
      | (apply ex_and; (· with_reducible exact hat (by omega) (sApply_len _ _ _ _) (sApply_i32 _ _ _ _)); conv => whnf)
      | (apply ex_and; (· with_reducible exact apply_okM hb.o (by rw [sAttend_len, sApply_len]) (sAttend_i32 _ _ _ _)); conv => whnf)
      | (apply ex_and; (· with_reducible exact addv_ok (by rw [sApply_len]; omega) (by omega) (by assumption) (sApply_i32 _ _ _ _)); conv => whnf)
      | (apply ex_and; (· with_reducible exact half_ok (by omega) (by omega) hb (by rw [sPlus_len]; omega) (sPlus_i32 _ _)); conv => whnf)
      | (apply ex_i64; (· omega); conv => whnf)
      | (apply ex_rows; (· assumption); (· omega); intro r hr hq; obtain ⟨hq1, hq2⟩ := hq; conv => whnf)
      | (apply ex_eq; conv => whnf)
      | (apply nd_gl; (· omega); conv => whnf)
      | (apply nodup_and; (· exact of_decide_eq_true (by kernel_rfl)); conv => whnf)
      | (apply And.intro; (· first | with_reducible rfl | exact trivial | exact Or.inl ⟨rfl, rfl⟩ | exact Or.inr rfl | decide | omega | (apply Nat.le_of_ble_eq_true; rfl) | (dsimp only; omega) | (simp only [ints_len, gl_len, mp_len, List.length_cons, List.length_nil, List.length_drop, List.length_take]; omega)); conv => whnf)
      | (apply br_dec <;> intro hbr <;> (first | rw [decide_eq_true hbr] | rw [decide_eq_false hbr] | skip) <;> conv => whnf)
      | rw [gl_cut]
      | (rw [fz_rows]; conv => whnf)
      | fail
    · rw [hg (by omega)] at hr
      subst hr
      refine Exists.intro (j + 1 + 1) (And.intro (And.intro ?_ ?_) ?_)
      · first | omega | skip
      · first | omega | skip
      conv => whnf
      repeat' first
        | apply True.intro
        | (apply ptr_and; (· kernel_rfl); conv => whnf)
        | omega
        | (apply Or.inr; rfl)
        | (apply Or.inl; rfl)
        | (apply or_row; (· rfl); (· rfl); rfl)
        | (apply or_row; (· rfl); (· rfl); apply gl_mp; subst_vars; rfl)
        | (apply And.intro <;> conv => whnf)
        | fail
    · have e : j + 1 = i := by omega
      subst e
      repeat' first
        | apply True.intro
        | (apply Or.inr; rfl)
        | (apply or_row; (· rfl); (· rfl); rfl)
        | (apply And.intro <;> conv => whnf)
        | (apply Nat.le_of_ble_eq_true; rfl)
        | fail
end Go.Proofs.Ytjihjjbieeofdaa.T
namespace Go.Proofs.Ytjihjjbieeofdaa.T
set_option linter.unusedSimpArgs false
set_option linter.unusedVariables false
open Go
set_option linter.unusedVariables false
set_option maxHeartbeats 8000000
set_option maxRecDepth 100000
/-- Rows that come into layer l. -/
def X (D H s : Nat) (w : Wts) (F0 : Nat → List Int) : Nat → Nat → List Int
  | 0, i => F0 i
  | l + 1, i => match w.blocks[l]? with
    | some b => lx D H s b (X D H s w F0 l) i
    | none => []
def kF (D H s : Nat) (w : Wts) (F0 : Nat → List Int) (l i : Nat) : List Int := match w.blocks[l]? with
  | some b => sK D b (X D H s w F0 l i)
  | none => []
def vF (D H s : Nat) (w : Wts) (F0 : Nat → List Int) (l i : Nat) : List Int := match w.blocks[l]? with
  | some b => sV D b (X D H s w F0 l i)
  | none => []
theorem X_ok {V D H L s m : Nat} {w : Wts} {F0 : Nat → List Int} (hF : ∀ i, i < m → (F0 i).length = D ∧ I32s (F0 i)) : ∀ l, l ≤ w.blocks.length → ∀ i, i < m → (X D H s w F0 l i).length = D ∧ I32s (X D H s w F0 l i)
  | 0, _, i, hi => hF i hi
  | l + 1, hl, i, hi => by
    obtain ⟨b, hb⟩ : ∃ b, w.blocks[l]? = some b := ⟨_, List.getElem?_eq_getElem (by omega)⟩
    have e : X D H s w F0 (l + 1) i = lx D H s b (X D H s w F0 l) i := by
      show (match w.blocks[l]? with | some b => lx D H s b (X D H s w F0 l) i | none => []) = _
      rw [hb]
    rw [e]
    exact ⟨by rw [lx_len]; exact (X_ok (V := V) (L := L) hF l (by omega) i hi).1, lx_i32 _ _ _ _ _ _⟩
abbrev rows3 (o : Option Nat) (l : List (List (List Int))) : AV := .sl o none 1 true (gl (rowsA none) l)
theorem fz_blks (l : List Blk) : AV.fzL (gl (blkA none) l) = gl (blkA none) l := by
  rw [AV.fzL_map]; unfold gl; rw [List.map_map]; rfl
theorem fz_rows3 (l : List (List (List Int))) : AV.fzL (gl (rowsA none) l) = gl (rowsA none) l := by
  rw [AV.fzL_map]; unfold gl; rw [List.map_map]
  refine List.map_congr_left fun r _ => ?_
  show AV.sl none none 1 true (AV.fzL (gl (rowA none) r)) = _
  rw [fz_rows]
theorem gl_snoc3 (o : Option Nat) (l : List (List (List Int))) (r : List (List Int)) : gl (rowsA o) l ++ [.sl o none 1 true (gl (rowA o) r)] = gl (rowsA o) (l ++ [r]) := by simp [gl, rowsA]
def eFull : Env := ⟨tbl, [], [55, 77, 82], [], [(0, [2, 3, 4, 7, 4999, 4000, 4001, 4002, 4003, 4004, 5999, 5000, 5001, 5002, 5003, 5004, 5005, 5006, 5007, 8999, 8000, 8001]), (1, [2, 3, 4, 7, 9, 4999, 4000, 4001, 4002, 4003, 4004, 5999, 5000, 5001, 5002, 5003, 5004, 5005, 5006, 5007, 8999, 8000, 8001]), (2, [2, 3, 4, 7, 9, 26, 4999, 4000, 4001, 4002, 4003, 4004, 5999, 5000, 5001, 5002, 5003, 5004, 5005, 5006, 5007, 8999, 8000, 8001]), (3, [6, 7, 8, 8999, 8000, 8001]), (4, [2, 3, 4, 7, 10, 4999, 4000, 4001, 4002, 4003, 4004, 5999, 5000, 5001, 5002, 5003, 5004, 5005, 5006, 5007, 8999, 8000, 8001]), (5, [2, 3, 4, 7, 10, 33, 4999, 4000, 4001, 4002, 4003, 4004, 5999, 5000, 5001, 5002, 5003, 5004, 5005, 5006, 5007, 8999, 8000, 8001]), (6, [6, 7, 8, 8999, 8000, 8001]), (7, [2, 3, 4, 7, 11, 4999, 4000, 4001, 4002, 4003, 4004, 5999, 5000, 5001, 5002, 5003, 5004, 5005, 5006, 5007, 8999, 8000, 8001]), (8, [3, 4, 7, 11, 36, 37, 38, 4999, 4000, 4001, 4002, 4003, 4004, 5999, 5000, 5001, 5002, 5003, 5004, 5005, 5006, 5007, 8999, 8000, 8001]), (9, [3, 4, 7, 11, 36, 37, 38, 39, 4999, 4000, 4001, 4002, 4003, 4004, 5999, 5000, 5001, 5002, 5003, 5004, 5005, 5006, 5007, 8999, 8000, 8001]), (10, [3, 4, 7, 11, 12, 13, 36, 37, 38, 4999, 4000, 4001, 4002, 4003, 4004, 5999, 5000, 5001, 5002, 5003, 5004, 5005, 5006, 5007, 8999, 8000, 8001]), (11, [3, 4, 7, 11, 12, 14, 36, 37, 38, 4999, 4000, 4001, 4002, 4003, 4004, 5999, 5000, 5001, 5002, 5003, 5004, 5005, 5006, 5007, 8999, 8000, 8001]), (12, [3, 4, 7, 11, 36, 37, 38, 4999, 4000, 4001, 4002, 4003, 4004, 5999, 5000, 5001, 5002, 5003, 5004, 5005, 5006, 5007, 8999, 8000, 8001]), (13, [3, 4, 7, 11, 36, 37, 38, 4999, 4000, 4001, 4002, 4003, 4004, 5999, 5000, 5001, 5002, 5003, 5004, 5005, 5006, 5007, 8999, 8000, 8001]), (14, [3, 4, 7, 11, 16, 4999, 4000, 4001, 4002, 4003, 4004, 5999, 5000, 5001, 5002, 5003, 5004, 5005, 5006, 5007, 8999, 8000, 8001, 17999, 17000, 17001]), (15, [3, 4, 7, 11, 16, 58, 59, 60, 4999, 4000, 4001, 4002, 4003, 4004, 5999, 5000, 5001, 5002, 5003, 5004, 5005, 5006, 5007, 8999, 8000, 8001, 17999, 17000, 17001]), (16, [3, 4, 7, 11, 16, 58, 59, 60, 61, 4999, 4000, 4001, 4002, 4003, 4004, 5999, 5000, 5001, 5002, 5003, 5004, 5005, 5006, 5007, 8999, 8000, 8001, 17999, 17000, 17001]), (17, [3, 4, 7, 11, 16, 18, 58, 59, 60, 4999, 4000, 4001, 4002, 4003, 4004, 5999, 5000, 5001, 5002, 5003, 5004, 5005, 5006, 5007, 8999, 8000, 8001, 17999, 17000, 17001, 19999, 19000, 19001, 19002, 19003, 19004, 19005, 19006, 19007, 19008, 19009, 19010, 19011, 19012, 19013, 19014, 19015, 19016, 19017, 19018, 19019]), (18, [3, 4, 7, 16, 19, 20, 21, 58, 59, 60, 4999, 4000, 4001, 4002, 4003, 4004, 5999, 5000, 5001, 5002, 5003, 5004, 5005, 5006, 5007, 8999, 8000, 8001, 17999, 17000, 17001]), (19, [3, 4, 7, 11, 16, 20, 21, 58, 59, 60, 4999, 4000, 4001, 4002, 4003, 4004, 5999, 5000, 5001, 5002, 5003, 5004, 5005, 5006, 5007, 8999, 8000, 8001, 17999, 17000, 17001]), (20, [3, 4, 7, 11, 16, 58, 59, 60, 4999, 4000, 4001, 4002, 4003, 4004, 5999, 5000, 5001, 5002, 5003, 5004, 5005, 5006, 5007, 8999, 8000, 8001, 17999, 17000, 17001]), (21, [3, 4, 7, 11, 16, 58, 59, 60, 4999, 4000, 4001, 4002, 4003, 4004, 5999, 5000, 5001, 5002, 5003, 5004, 5005, 5006, 5007, 8999, 8000, 8001, 17999, 17000, 17001]), (22, [6, 7, 8, 8999, 8000, 8001])]⟩
theorem full_err {nt : Option Bool} {c : Cfg} {w : Wts} {t : List Int} (hl : w.blocks.length ≤ 1000000) (h : chkW c w ≠ 0) : Impl Try.prog 37 [cfgA c, wtsA none none w, .sl none nt 1 false (ints .i64 t)] (.tup [rowA (some 0) [], .agg [rows3 (some 0) [], rows3 (some 0) []], .i .i64 (chkW c w)]) := by
  have hk := mcheck_ok c w hl
  generalize chkW c w = k at *
  refine impl_of (fn := Try.f37) tbl_ok (by kernel_rfl) (by kernel_rfl) rfl ⟨by simp [Try.f37], by decide⟩ rfl fun W0 => ?_
  repeat' first
    | apply WP.seq
    | (apply WP.region (E := eFull) mixed tbl_ok; conv => whnf)
    | (apply WP.cond; conv => whnf)
    | (apply WP.ret; conv => whnf)
    | (rw [fz_blks]; conv => whnf)
    | (apply reg_and; (· kernel_rfl); conv => whnf)
    | (apply ex_and; (· with_reducible exact hk); conv => whnf)
    | (apply ex_eq; conv => whnf)
    | (apply nodup_and; (· exact of_decide_eq_true (by kernel_rfl)); conv => whnf)
    | (apply And.intro; (· first | with_reducible rfl | exact trivial | exact Or.inl ⟨rfl, rfl⟩ | exact Or.inr rfl | decide | omega | (apply Nat.le_of_ble_eq_true; rfl) | (dsimp only; omega) | (simp only [ints_len, gl_len, mp_len, List.length_cons, List.length_nil, List.length_drop, List.length_take]; omega)); conv => whnf)
    | apply br_not
    | (apply br_no; (· omega); conv => whnf)
    | fail
  repeat' first
    | apply True.intro
    | exact Int.NonNeg.mk _
    | (apply Or.inl; rfl)
    | (apply or_row; (· rfl); (· rfl); rfl)
    | (apply Or.inr; apply And.intro; (· rfl); rfl)
    | (apply And.intro <;> conv => whnf)
    | (apply Nat.le_of_ble_eq_true; rfl)
    | fail
theorem full_prm {nt : Option Bool} {c : Cfg} {w : Wts} {t : List Int} (hl : w.blocks.length ≤ 1000000) (ht : t.length ≤ 1000000) (h : chkW c w = 0) (h2 : prm c.vocab t ≠ 0) : Impl Try.prog 37 [cfgA c, wtsA none none w, .sl none nt 1 false (ints .i64 t)] (.tup [rowA (some 0) [], .agg [rows3 (some 0) [], rows3 (some 0) []], .i .i64 (prm c.vocab t)]) := by
  have hk := mcheck_ok c w hl
  have hp : ∀ {nt : Option Bool}, Impl Try.prog 53 [cfgA c, .sl none nt 1 false (ints .i64 t)] (.i .i64 (prm c.vocab t)) := fun {nt} => prompt_ok (nt := nt) c ht
  rw [h] at hk
  generalize prm c.vocab t = k at *
  refine impl_of (fn := Try.f37) tbl_ok (by kernel_rfl) (by kernel_rfl) rfl ⟨by simp [Try.f37], by decide⟩ rfl fun W0 => ?_
  repeat' first
    | apply WP.seq
    | (apply WP.region (E := eFull) mixed tbl_ok; conv => whnf)
    | (apply WP.cond; conv => whnf)
    | (apply WP.skip; conv => whnf)
    | (apply WP.ret; conv => whnf)
    | (rw [fz_blks]; conv => whnf)
    | (apply reg_and; (· kernel_rfl); conv => whnf)
    | (apply ex_and; (· with_reducible exact hk); conv => whnf)
    | (apply ex_and; (· with_reducible exact hp); conv => whnf)
    | (apply ex_eq; conv => whnf)
    | (apply nodup_and; (· exact of_decide_eq_true (by kernel_rfl)); conv => whnf)
    | (apply And.intro; (· first | with_reducible rfl | exact trivial | exact Or.inl ⟨rfl, rfl⟩ | exact Or.inr rfl | decide | omega | (apply Nat.le_of_ble_eq_true; rfl) | (dsimp only; omega) | (simp only [ints_len, gl_len, mp_len, List.length_cons, List.length_nil, List.length_drop, List.length_take]; omega)); conv => whnf)
    | apply br_not
    | (apply br_t; conv => whnf)
    | (apply br_no; (· omega); conv => whnf)
    | fail
  repeat' first
    | apply True.intro
    | exact Int.NonNeg.mk _
    | (apply Or.inl; rfl)
    | (apply or_row; (· rfl); (· rfl); rfl)
    | (apply Or.inr; apply And.intro; (· rfl); rfl)
    | (apply And.intro <;> conv => whnf)
    | (apply Nat.le_of_ble_eq_true; rfl)
    | fail
theorem full_ok {nt : Option Bool} {c : Cfg} {V D H L n s : Nat} {w : Wts} {t : List Int} (hwl : w.blocks.length ≤ 4) (hk : chkW c w = 0) (hp : prm c.vocab t = 0) (hc : c.heads = n) (hn : 1 ≤ n ∧ n ≤ 4) (hns : n * s = D) (hD : 0 < D ∧ D ≤ 32) (hH : 0 < H ∧ H ≤ 64) (hg : WtsG V D H L w) (ht : 0 < t.length ∧ t.length ≤ 128) (hV : ∀ x ∈ t, 0 ≤ x ∧ x < V) : Impl Try.prog 37 [cfgA c, wtsA none none w, .sl none nt 1 false (ints .i64 t)] (.tup [rowA (some 0) (sLikes V D w (X D H s w (fun i => sBegin D w (t.getD i 0).toNat i) w.blocks.length (t.length - 1))), .agg [rows3 (some 0) (mp w.blocks.length fun l => mp t.length (kF D H s w (fun i => sBegin D w (t.getD i 0).toNat i) l)), rows3 (some 0) (mp w.blocks.length fun l => mp t.length (vF D H s w (fun i => sBegin D w (t.getD i 0).toNat i) l))], .i .i64 0]) := by
  have hck := mcheck_ok c w (by omega)
  have hpt : ∀ {nt : Option Bool}, Impl Try.prog 53 [cfgA c, .sl none nt 1 false (ints .i64 t)] (.i .i64 0) := fun {nt} => by
    have := prompt_ok (nt := nt) c (t := t) (by omega)
    rwa [hp] at this
  rw [hk] at hck
  have hX := fun l hl => X_ok (V := V) (H := H) (L := L) (s := s) (w := w) (m := t.length) (F0 := fun i => sBegin D w (t.getD i 0).toNat i) (fun i _ => ⟨sBegin_len _ _ _ _, sBegin_i32 _ _ _ _⟩) l hl
  refine impl_of (fn := Try.f37) tbl_ok (by kernel_rfl) (by kernel_rfl) rfl ⟨by simp [Try.f37], by decide⟩ rfl fun W0 => ?_
  repeat' first
    | apply WP.seq
    | (apply WP.region (E := eFull) mixed tbl_ok; conv => whnf)
    | (apply WP.cond; conv => whnf)
    | (apply WP.skip; conv => whnf)
    | apply WP.block
    | (rw [fz_blks]; conv => whnf)
    | (apply reg_and; (· kernel_rfl); conv => whnf)
    | (apply ex_and; (· with_reducible exact hck); conv => whnf)
    | (apply ex_and; (· with_reducible exact hpt); conv => whnf)
    | (apply ex_ilen; conv => whnf)
    | (apply ex_eq; conv => whnf)
    | (apply And.intro; (· first | with_reducible rfl | exact trivial | exact Or.inl ⟨rfl, rfl⟩ | exact Or.inr rfl | decide | omega | (apply Nat.le_of_ble_eq_true; rfl) | (dsimp only; omega) | (simp only [ints_len, gl_len, mp_len, List.length_cons, List.length_nil, List.length_drop, List.length_take]; omega)); conv => whnf)
    | apply br_not
    | (apply br_t; conv => whnf)
    | fail
  refine WP.loopM [11, 12, 13, 14, 15, 38, 39, 43] (fun i : Nat => [(11, .sl (some 0) none 1 true (gl (rowA none) (mp i fun i => sBegin D w (t.getD i 0).toNat i))), (38, .i .i64 i)]) (fun i => i ≤ t.length) (fun i => t.length - i) 0 ?_
  conv => whnf
  refine And.intro (And.intro ?_ ?_) (fun i hi => ?_)
  · first | omega | trivial | skip
  · conv => whnf
    repeat' first
      | apply True.intro
      | (apply ptr_and; (· kernel_rfl); conv => whnf)
      | omega
      | (apply Or.inr; rfl)
      | (apply Or.inl; rfl)
      | (apply or_row; (· rfl); (· rfl); rfl)
      | (apply Or.inr; apply And.intro; (· rfl); rfl)
      | (apply And.intro <;> conv => whnf)
      | fail
  conv => whnf
  have hget : i < t.length → ∃ q : Nat, q = (t.getD i 0).toNat ∧ t.getD ((i : Int).toNat) 0 = (q : Int) ∧ q < V := fun hi => by
    have := hV _ (getD_mem hi 0)
    exact ⟨_, rfl, by rw [Int.toNat_natCast]; omega, by omega⟩
  have hsr := fun j => sRow_i32 (c := D) (i := j) hg.embed.2.2.i32
  repeat' first
    | apply WP.seq
    | (apply WP.region (E := eFull) mixed tbl_ok; conv => whnf)
    | (apply WP.cond; conv => whnf)
    | (apply WP.skip; conv => whnf)
    | (apply WP.exit; conv => whnf)
    | apply WP.block
    | (apply ex_ints; (· omega); obtain ⟨q, hq1, hq2, hq3⟩ := hget (by omega); rw [hq2]; conv => whnf)
    | (apply reg_and; (· kernel_rfl); conv => whnf)
    | (apply ex_and; (· with_reducible exact row_okM hg.embed (by omega)); conv => whnf)
    | (apply ex_and; (· with_reducible exact place_ok (by rw [sRow_len]; omega) (by omega) (hsr _)); conv => whnf)
    | (apply ex_glen; conv => whnf)
    | (apply ex_i64; (· omega); conv => whnf)
    | (apply ex_eq; conv => whnf)
    | (apply nd_ints; (· omega); conv => whnf)
    | (apply And.intro; (· first | with_reducible rfl | exact trivial | exact Or.inl ⟨rfl, rfl⟩ | exact Or.inr rfl | decide | omega | (apply Nat.le_of_ble_eq_true; rfl) | (dsimp only; omega) | (simp only [ints_len, gl_len, mp_len, List.length_cons, List.length_nil, List.length_drop, List.length_take]; omega)); conv => whnf)
    | (apply br_dec <;> intro hbr <;> (first | rw [decide_eq_true hbr] | rw [decide_eq_false hbr] | skip) <;> conv => whnf)
    | fail
  · have hb0 : sPlace (sRow D w.embed.d q) i = sBegin D w (t.getD i 0).toNat i := by rw [hq1]; rfl
    rw [hb0]
    clear hX
    refine Exists.intro (i + 1) (And.intro (And.intro ?_ ?_) ?_)
    · first | omega | skip
    · first | omega | skip
    conv => whnf
    repeat' first
      | apply True.intro
      | (apply ptr_and; (· kernel_rfl); conv => whnf)
      | omega
      | (apply Or.inr; rfl)
      | (apply Or.inl; rfl)
      | (apply or_row; (· rfl); (· rfl); rfl)
      | (apply or_row; (· rfl); (· rfl); apply gl_mp; subst_vars; rfl)
      | (apply And.intro <;> conv => whnf)
      | fail
  have e : i = t.length := by omega
  subst e
  clear hget hsr hi
  generalize (fun i => sBegin D w (t.getD i 0).toNat i) = F0 at *
  have hkf : (mp t.length F0) = mp t.length (X D H s w F0 0) := rfl
  rw [hkf]
  refine WP.loopM [11, 16, 18, 19, 20, 21, 60, 61, 64, 17000, 17001, 19999, 19000, 19001, 19002, 19003, 19004, 19005, 19006, 19007, 19008, 19009, 19010, 19011, 19012, 19013, 19014, 19015, 19016, 19017, 19018, 19019] (fun l : Nat => [(11, .sl (some 0) none 1 true (gl (rowA none) (mp t.length (X D H s w F0 l)))), (16, .ptr 16 0), (17000, rows3 (some 0) (mp l fun l => mp t.length (kF D H s w F0 l))), (17001, rows3 (some 0) (mp l fun l => mp t.length (vF D H s w F0 l))), (60, .i .i64 l)]) (fun l => l ≤ w.blocks.length) (fun l => w.blocks.length - l) 0 ?_
  conv => whnf
  refine And.intro (And.intro ?_ ?_) (fun l hl => ?_)
  · first | omega | trivial | skip
  · conv => whnf
    repeat' first
      | apply True.intro
      | (apply ptr_and; (· kernel_rfl); conv => whnf)
      | omega
      | (apply Or.inr; rfl)
      | (apply Or.inl; rfl)
      | (apply or_row; (· rfl); (· rfl); rfl)
      | (apply And.intro <;> conv => whnf)
      | fail
  conv => whnf
  have hbk : ∀ b, w.blocks[l]? = some b → kF D H s w F0 l = (fun i => sK D b (X D H s w F0 l i)) ∧ vF D H s w F0 l = (fun i => sV D b (X D H s w F0 l i)) ∧ X D H s w F0 (l + 1) = lx D H s b (X D H s w F0 l) := fun b hb => by
    refine ⟨?_, ?_, ?_⟩
    · funext i; unfold kF; rw [hb]
    · funext i; unfold vF; rw [hb]
    · funext i; show (match w.blocks[l]? with | some b => lx D H s b (X D H s w F0 l) i | none => []) = _
      rw [hb]
  have hXl := hX l hl
  have hml : (mp t.length (X D H s w F0 l)).length = t.length := mp_len _ _
  have hlay : ∀ {nr : Option Bool} b, b ∈ w.blocks → Impl Try.prog 66 [cfgA c, blkA none b, .sl none nr 1 true (gl (rowA none) (mp t.length (X D H s w F0 l)))] (.tup [.sl (some 0) none 1 true (gl (rowA none) (mp t.length (lx D H s b (X D H s w F0 l)))), .sl none none 1 true (gl (rowA none) (mp t.length fun i => sK D b (X D H s w F0 l i))), .sl none none 1 true (gl (rowA none) (mp t.length fun i => sV D b (X D H s w F0 l i)))]) := fun b hb => layer_ok hc hn hns hD (by omega) (hg.blocks b hb) ht hXl
  have hlast : ∀ n : Int, n = t.length - 1 → (gl (rowA none) (mp t.length (X D H s w F0 l)))[n.toNat]? = some (rowA none (X D H s w F0 l (t.length - 1))) := fun n hn => by
    rw [show n.toNat = t.length - 1 by omega]
    unfold gl mp
    rw [List.getElem?_map, List.getElem?_map, List.getElem?_range (by omega)]; rfl
  have hlik : ∀ {nx : Option Bool}, Impl Try.prog 67 [wtsA none none w, .sl none nx 1 false (ints .i32 (X D H s w F0 l (t.length - 1)))] (rowA (some 0) (sLikes V D w (X D H s w F0 l (t.length - 1)))) := fun {nx} => likes_ok (by omega) hg (hXl _ (by omega)).1 (hXl _ (by omega)).2
  clear hX
  repeat' first
    | apply WP.seq
    | (apply WP.region (E := eFull) mixed tbl_ok; conv => whnf)
    | (apply WP.cond; conv => whnf)
    | (apply WP.skip; conv => whnf)
    | (apply WP.ret; conv => whnf)
    | (apply WP.exit; conv => whnf)
    | apply WP.block
    | (apply ex_at (hlast _ (by rw [hml])); conv => whnf)
    | (apply ex_gl; (· omega); intro b hb hb2; rw [Int.toNat_natCast] at hb2; have hbg := hg.blocks b hb; conv => whnf)
    | (rw [fz_blks]; conv => whnf)
    | (apply reg_and; (· kernel_rfl); conv => whnf)
    | (apply ex_and; (· with_reducible exact hlay _ (by assumption)); conv => whnf)
    | (apply ex_and; (· with_reducible exact hlik); conv => whnf)
    | (apply ex_glen; conv => whnf)
    | (apply ex_i64; (· omega); conv => whnf)
    | (apply ex_eq; conv => whnf)
    | (apply nd_gl; (· omega); conv => whnf)
    | (apply nodup_and; (· exact of_decide_eq_true (by kernel_rfl)); conv => whnf)
    | (apply And.intro; (· first | with_reducible rfl | exact trivial | exact Or.inl ⟨rfl, rfl⟩ | exact Or.inr rfl | decide | omega | (apply Nat.le_of_ble_eq_true; rfl) | (dsimp only; omega) | (simp only [ints_len, gl_len, mp_len, List.length_cons, List.length_nil, List.length_drop, List.length_take]; omega)); conv => whnf)
    | (apply br_dec <;> intro hbr <;> (first | rw [decide_eq_true hbr] | rw [decide_eq_false hbr] | skip) <;> conv => whnf)
    | (rw [fz_rows]; conv => whnf)
    | fail
  · obtain ⟨e1, e2, e3⟩ := hbk _ hb2
    rw [← e1, ← e2, ← e3]
    clear e1 e2 e3 hbk hXl
    refine Exists.intro (l + 1) (And.intro (And.intro ?_ ?_) ?_)
    · first | omega | skip
    · first | omega | skip
    conv => whnf
    repeat' first
      | apply True.intro
      | (apply ptr_and; (· kernel_rfl); conv => whnf)
      | omega
      | (apply Or.inr; rfl)
      | (apply Or.inl; rfl)
      | (apply or_row; (· rfl); (· rfl); rfl)
      | (apply or_row; (· rfl); (· rfl); apply gl_mp; subst_vars; rfl)
      | (apply And.intro <;> conv => whnf)
      | fail
  · have e : l = w.blocks.length := by omega
    subst e
    repeat' first
      | apply True.intro
      | exact Int.NonNeg.mk _
      | (apply Or.inr; rfl)
      | (apply or_row; (· rfl); (· rfl); rfl)
      | (apply And.intro <;> conv => whnf)
      | (apply Nat.le_of_ble_eq_true; rfl)
      | fail
end Go.Proofs.Ytjihjjbieeofdaa.T
namespace Go.Proofs.Ytjihjjbieeofdaa.T
set_option linter.unusedSimpArgs false
set_option linter.unusedVariables false
open Go
set_option linter.unusedVariables false
set_option maxHeartbeats 4000000
set_option maxRecDepth 100000
/-- Both ways of a case come to M, all other places as they were. -/
theorem WP.cutcM {P : Program} {W0 : Bs} {N : Nat} {c c' d : Code} {st : St} {K : Exit → St → Prop} (t : Nat) (ms : List Nat) (M : St) (h : fixK ms st fun F => appK M F fun I => WP P W0 N (.cond (.tmp t) c c') st (thenK (fun st' => ptrB I I = true ∧ subK st' I) K) ∧ WP P W0 N d I K) : WP P W0 N (.cond (.tmp t) c c') st (thenK (fun st' => WP P W0 N d st' K) K) := by
  obtain ⟨F, hF⟩ := fixK_eq ms st fun F => appK M F fun I => WP P W0 N (.cond (.tmp t) c c') st (thenK (fun st' => ptrB I I = true ∧ subK st' I) K) ∧ WP P W0 N d I K
  rw [hF, appK_eq] at h
  exact WP.cutc t (M ++ F) h.1 h.2
/-- However a region goes, it comes to M. -/
theorem WP.cutR {P : Program} {W0 : Bs} {N : Nat} {ops : Array Oper} {draw : Bool} {d : Code} {st : St} {K : Exit → St → Prop} (id : Nat) (ms : List Nat) (M : St) (h : fixK ms st fun F => appK M F fun I => WP P W0 N (.region id ops draw) st (thenK (fun st' => ptrB I I = true ∧ subK st' I) K) ∧ WP P W0 N d I K) : WP P W0 N (.region id ops draw) st (thenK (fun st' => WP P W0 N d st' K) K) := by
  obtain ⟨F, hF⟩ := fixK_eq ms st fun F => appK M F fun I => WP P W0 N (.region id ops draw) st (thenK (fun st' => ptrB I I = true ∧ subK st' I) K) ∧ WP P W0 N d I K
  rw [hF, appK_eq] at h
  exact h.1.mono fun e st' hk => by
    cases e with
    | normal => exact WP.sub ⟨hk.1, hk.2⟩ h.2
    | _ => exact hk
theorem WP.cutB {P : Program} {W0 : Bs} {N : Nat} {c d : Code} {st : St} {K : Exit → St → Prop} (id : Nat) (ms : List Nat) (M : St) (h : fixK ms st fun F => appK M F fun I => WP P W0 N (.block id c) st (thenK (fun st' => ptrB I I = true ∧ subK st' I) K) ∧ WP P W0 N d I K) : WP P W0 N (.block id c) st (thenK (fun st' => WP P W0 N d st' K) K) := by
  obtain ⟨F, hF⟩ := fixK_eq ms st fun F => appK M F fun I => WP P W0 N (.block id c) st (thenK (fun st' => ptrB I I = true ∧ subK st' I) K) ∧ WP P W0 N d I K
  rw [hF, appK_eq] at h
  exact h.1.mono fun e st' hk => by
    cases e with
    | normal => exact WP.sub ⟨hk.1, hk.2⟩ h.2
    | _ => exact hk
def eFew3 : Env := ⟨tbl, [], [], [], [(0, [0, 1]), (1, [0, 1, 8]), (2, [0]), (3, [4])]⟩
theorem few3_ok {no : Option Bool} {l : List Int} (n : Nat) (hl : l.length ≤ 140737488351232) (hn : n ≤ 1000000) : Impl Try.prog 21 [.sl none no 1 false (ints .i32 l), .i .i64 n] (rowA (some 0) (l.take n)) := by
  refine impl_of (fn := Try.f21) tbl_ok (by kernel_rfl) (by kernel_rfl) rfl ⟨by simp [Try.f21], by decide⟩ rfl fun W0 => ?_
  repeat' first
    | apply WP.seq
    | (apply WP.region (E := eFew3) mixed tbl_ok; conv => whnf)
    | (apply WP.cond; conv => whnf)
    | (apply WP.skip; conv => whnf)
    | (apply WP.ret; conv => whnf)
    | (apply reg_and; (· kernel_rfl); conv => whnf)
    | (apply ex_ilen; conv => whnf)
    | (apply ex_eq; conv => whnf)
    | (apply And.intro; (· first | with_reducible rfl | exact trivial | exact Or.inl ⟨rfl, rfl⟩ | exact Or.inr rfl | decide | omega | (apply Nat.le_of_ble_eq_true; rfl) | (dsimp only; omega) | (simp only [ints_len, gl_len, mp_len, List.length_cons, List.length_nil, List.length_drop, List.length_take]; omega)); conv => whnf)
    | (apply br_dec <;> intro hbr <;> (first | rw [decide_eq_true hbr] | rw [decide_eq_false hbr] | skip) <;> conv => whnf)
    | rw [ints_cut]
    | fail
  · refine And.intro (Or.inl rfl) (Or.inl (And.intro rfl (And.intro rfl ?_)))
    rw [List.nil_append, Int.toNat_natCast]; rfl
  · refine And.intro (Or.inl rfl) (Or.inl (And.intro rfl (And.intro rfl ?_)))
    rw [List.nil_append, List.take_of_length_le (by omega)]
def eFew8 : Env := ⟨tbl, [], [], [], [(0, [0, 1]), (1, [0, 1, 8]), (2, [0]), (3, [4])]⟩
theorem few8_ok {no : Option Bool} {l : List Int} (n : Nat) (hl : l.length ≤ 140737488351232) (hn : n ≤ 1000000) : Impl Try.prog 20 [.sl none no 1 false (ints .i64 l), .i .i64 n] (.sl (some 0) none 1 false (ints .i64 (l.take n))) := by
  refine impl_of (fn := Try.f20) tbl_ok (by kernel_rfl) (by kernel_rfl) rfl ⟨by simp [Try.f20], by decide⟩ rfl fun W0 => ?_
  repeat' first
    | apply WP.seq
    | (apply WP.region (E := eFew8) mixed tbl_ok; conv => whnf)
    | (apply WP.cond; conv => whnf)
    | (apply WP.skip; conv => whnf)
    | (apply WP.ret; conv => whnf)
    | (apply reg_and; (· kernel_rfl); conv => whnf)
    | (apply ex_ilen; conv => whnf)
    | (apply ex_eq; conv => whnf)
    | (apply And.intro; (· first | with_reducible rfl | exact trivial | exact Or.inl ⟨rfl, rfl⟩ | exact Or.inr rfl | decide | omega | (apply Nat.le_of_ble_eq_true; rfl) | (dsimp only; omega) | (simp only [ints_len, gl_len, mp_len, List.length_cons, List.length_nil, List.length_drop, List.length_take]; omega)); conv => whnf)
    | (apply br_dec <;> intro hbr <;> (first | rw [decide_eq_true hbr] | rw [decide_eq_false hbr] | skip) <;> conv => whnf)
    | rw [ints_cut]
    | fail
  · refine And.intro (Or.inl rfl) (Or.inl (And.intro rfl (And.intro rfl ?_)))
    rw [List.nil_append, Int.toNat_natCast]; rfl
  · refine And.intro (Or.inl rfl) (Or.inl (And.intro rfl (And.intro rfl ?_)))
    rw [List.nil_append, List.take_of_length_le (by omega)]
def eFew4 : Env := ⟨tbl, [], [], [], [(0, [1, 2, 2999, 2000, 2001, 2002, 3999, 3000, 3001, 3002]), (1, [1, 2, 2999, 2000, 2001, 2002, 3999, 3000, 3001, 3002]), (2, [2, 3999, 3000, 3001, 3002])]⟩
theorem few4_ok {no : Option Bool} {r c : Int} {l : List Int} (hl : l.length ≤ 140737488351232) : Impl Try.prog 56 [matA none no r c l] (matA (some 0) none r c (l.take 2000)) := by
  have hf : ∀ {no : Option Bool}, Impl Try.prog 21 [.sl none no 1 false (ints .i32 l), .i .i64 2000] (rowA (some 0) (l.take 2000)) := fun {no} => few3_ok 2000 hl (by omega)
  generalize l.take 2000 = L at *
  refine impl_of (fn := Try.f56) tbl_ok (by kernel_rfl) (by kernel_rfl) rfl ⟨by simp [Try.f56], by decide⟩ rfl fun W0 => ?_
  repeat' first
    | apply WP.seq
    | (apply WP.region (E := eFew4) mixed tbl_ok; conv => whnf)
    | (apply WP.ret; conv => whnf)
    | (apply reg_and; (· kernel_rfl); conv => whnf)
    | (apply ex_and; (· with_reducible exact hf); conv => whnf)
    | (apply And.intro; (· first | with_reducible rfl | exact trivial | exact Or.inl ⟨rfl, rfl⟩ | exact Or.inr rfl | decide | omega | (apply Nat.le_of_ble_eq_true; rfl) | (dsimp only; omega) | (simp only [ints_len, gl_len, mp_len, List.length_cons, List.length_nil, List.length_drop, List.length_take]; omega)); conv => whnf)
    | fail
  repeat' first
    | apply True.intro
    | (apply Or.inr; rfl)
    | (apply or_row; (· rfl); (· rfl); rfl)
    | (apply And.intro <;> conv => whnf)
    | fail
def small (c : Cfg) : Prop := c.dim ≤ 8 ∧ c.hidden ≤ 8 ∧ c.layers ≤ 2
instance (c : Cfg) : Decidable (small c) := by unfold small; infer_instance
def eSmall : Env := ⟨tbl, [], [], [], [(0, [1, 2999, 2000, 2001, 2002, 2003, 2004]), (1, [15]), (2, [2]), (3, [2])]⟩
theorem small_ok (c : Cfg) : Impl Try.prog 30 [cfgA c] (.i .i64 (if small c then 1 else 0)) := by
  obtain ⟨c1, c2, c3, c4, c5⟩ := c
  rw [cfgA_eq]
  refine impl_of (fn := Try.f30) tbl_ok (by kernel_rfl) (by kernel_rfl) rfl ⟨by simp [Try.f30], by decide⟩ rfl fun W0 => ?_
  repeat' first
    | apply WP.seq
    | (apply WP.region (E := eSmall) mixed tbl_ok; conv => whnf)
    | (apply WP.cond; conv => whnf)
    | (apply WP.skip; conv => whnf)
    | (apply WP.ret; conv => whnf)
    | (apply reg_and; (· kernel_rfl); conv => whnf)
    | (apply ex_eq; conv => whnf)
    | ((with_reducible apply gd_t); conv => whnf)
    | ((with_reducible apply gd_f); conv => whnf)
    | (apply gd_br)
    | (apply And.intro; (· first | with_reducible rfl | exact trivial | exact Or.inl ⟨rfl, rfl⟩ | exact Or.inr rfl | decide | omega | (apply Nat.le_of_ble_eq_true; rfl) | (dsimp only; omega) | (simp only [ints_len, gl_len, mp_len, List.length_cons, List.length_nil, List.length_drop, List.length_take]; omega)); conv => whnf)
    | (apply br_t; conv => whnf)
    | (apply br_dec <;> intro hbr <;> (first | rw [decide_eq_true hbr] | rw [decide_eq_false hbr] | skip) <;> conv => whnf)
    | fail
  all_goals first
    | (rw [if_neg (by unfold small; dsimp only; omega)]; done)
    | (rw [if_pos (by unfold small; dsimp only; omega)]; done)
def eSame3 : Env := ⟨tbl, [], [], [], [(0, [0, 1]), (1, [0, 1, 10]), (2, [4]), (3, [0, 1, 12, 13]), (4, [0, 1, 12, 13, 14]), (5, [0, 1, 5, 12, 13]), (6, [0, 1, 12, 13, 24]), (7, [4]), (8, [0, 1, 12, 13]), (9, [4])]⟩
theorem same3_ok {n1 n2 : Option Bool} {a b : List Int} (hl : a.length ≤ 1000000000000) : Impl Try.prog 77 [.sl none n1 1 false (ints .i32 a), .sl none n2 1 false (ints .i32 b)] (.b (decide (a = b))) := by
  refine impl_of (fn := Try.f77) tbl_ok (by kernel_rfl) (by kernel_rfl) rfl ⟨by simp [Try.f77], by decide⟩ rfl fun W0 => ?_
  repeat' first
    | apply WP.seq
    | (apply WP.region (E := eSame3) mixed tbl_ok; conv => whnf)
    | (apply WP.cond; conv => whnf)
    | (apply WP.skip; conv => whnf)
    | (apply WP.ret; conv => whnf)
    | apply WP.block
    | (apply reg_and; (· kernel_rfl); conv => whnf)
    | (apply ex_ilen; conv => whnf)
    | (apply ex_eq; conv => whnf)
    | (apply And.intro; (· first | with_reducible rfl | exact trivial | exact Or.inl ⟨rfl, rfl⟩ | exact Or.inr rfl | decide | omega | (apply Nat.le_of_ble_eq_true; rfl) | (dsimp only; omega) | (simp only [ints_len, gl_len, mp_len, List.length_cons, List.length_nil, List.length_drop, List.length_take]; omega)); conv => whnf)
    | apply br_not
    | (apply br_dec <;> intro hbr <;> (first | rw [decide_eq_true hbr] | rw [decide_eq_false hbr] | skip) <;> conv => whnf)
    | fail
  · refine WP.loopM [5, 13, 14] (fun i : Nat => [(13, .i .i64 i)]) (fun i => i ≤ a.length ∧ ∀ j, j < i → a.getD j 0 = b.getD j 0) (fun i => a.length - i) 0 ?_
    conv => whnf
    refine And.intro (And.intro ?_ ?_) (fun i hi => ?_)
    · exact ⟨by omega, fun j hj => absurd hj (by omega)⟩
    · conv => whnf
      repeat' first
        | apply True.intro
        | (apply ptr_and; (· kernel_rfl); conv => whnf)
        | omega
        | (apply Or.inr; rfl)
        | (apply or_row; (· rfl); (· rfl); rfl)
        | (apply And.intro <;> conv => whnf)
        | fail
    conv => whnf
    obtain ⟨hi1, hi2⟩ := hi
    repeat' first
      | apply WP.seq
      | (apply WP.region (E := eSame3) mixed tbl_ok; conv => whnf)
      | (apply WP.cond; conv => whnf)
      | (apply WP.skip; conv => whnf)
      | (apply WP.ret; conv => whnf)
      | (apply WP.exit; conv => whnf)
      | apply WP.block
      | (apply reg_and; (· kernel_rfl); conv => whnf)
      | (apply ex_i64; (· omega); conv => whnf)
      | (apply ex_ints; (· omega); conv => whnf)
      | (apply ex_eq; conv => whnf)
      | (apply nd_ints; (· omega); conv => whnf)
      | (apply And.intro; (· first | with_reducible rfl | exact trivial | exact Or.inl ⟨rfl, rfl⟩ | exact Or.inr rfl | decide | omega | (apply Nat.le_of_ble_eq_true; rfl) | (dsimp only; omega) | (simp only [ints_len, gl_len, mp_len, List.length_cons, List.length_nil, List.length_drop, List.length_take]; omega)); conv => whnf)
      | apply br_not
      | (apply br_dec <;> intro hbr <;> (first | rw [decide_eq_true hbr] | rw [decide_eq_false hbr] | skip) <;> conv => whnf)
      | fail
    · refine Exists.intro (i + 1) (And.intro (And.intro ⟨by omega, fun j hj => ?_⟩ (by omega)) ?_)
      · by_cases e : j = i
        · subst e; rw [Int.toNat_natCast] at *; omega
        · exact hi2 j (by omega)
      · conv => whnf
        repeat' first
          | apply True.intro
          | (apply ptr_and; (· kernel_rfl); conv => whnf)
          | omega
          | (apply Or.inr; rfl)
          | (apply or_row; (· rfl); (· rfl); rfl)
          | (apply And.intro <;> conv => whnf)
          | fail
    · refine (decide_eq_false fun e => ?_).symm
      subst e; exact absurd rfl (by assumption)
    · exact (decide_eq_true (list_ext (by omega) fun j hj => hi2 j (by omega))).symm
  · refine (decide_eq_false fun e => ?_).symm
    subst e; omega
theorem gl_at {α : Type} {f : α → AV} {l : List α} {i : Nat} (d : α) (h : i < l.length) : (gl f l)[((i : Nat) : Int).toNat]? = some (f (l.getD i d)) := by
  rw [Int.toNat_natCast]; unfold gl
  rw [List.getElem?_map, List.getD_eq_getElem?_getD, List.getElem?_eq_getElem h]; rfl
theorem lists_ext {α : Type} {d : α} {a b : List α} (hl : a.length = b.length) (h : ∀ j, j < a.length → a.getD j d = b.getD j d) : a = b := by
  refine List.ext_getElem hl fun j h1 h2 => ?_
  have := h j h1
  simpa [List.getD_eq_getElem?_getD, h1, h2] using this
theorem getD_in {α : Type} {l : List α} {i : Nat} (d : α) (h : i < l.length) : l.getD i d ∈ l := by
  rw [List.getD_eq_getElem?_getD, List.getElem?_eq_getElem h]; exact List.getElem_mem h
/-- Rows, read only, known to be nil or not. -/
abbrev rowsN (nl : Option Bool) (r : List (List Int)) : AV := .sl none nl 1 true (gl (rowA none) r)
theorem fz_rowsN (nl : Option Bool) (l : List (List (List Int))) : AV.fzL (gl (rowsN nl) l) = gl (rowsN nl) l := by
  rw [AV.fzL_map]; unfold gl; rw [List.map_map]
  refine List.map_congr_left fun r _ => ?_
  show AV.sl none nl 1 true (AV.fzL (gl (rowA none) r)) = _
  rw [fz_rows]
theorem gl_snocN (nl : Option Bool) (l : List (List (List Int))) (r : List (List Int)) : gl (rowsN nl) l ++ [.sl none nl 1 true (gl (rowA none) r)] = gl (rowsN nl) (l ++ [r]) := by simp [gl, rowsN]
def eSame8 : Env := ⟨tbl, [], [], [], [(0, [0, 1]), (1, [0, 1, 11]), (2, [4]), (3, [0, 1, 13, 14]), (4, [0, 1, 13, 14, 15]), (5, [0, 1, 5, 13, 14]), (6, [0, 1, 5, 13, 14, 27]), (7, [4]), (8, [0, 1, 5, 13, 14, 32, 33]), (9, [0, 1, 5, 13, 14, 32, 33, 34]), (10, [0, 1, 5, 6, 13, 14, 32, 33]), (11, [0, 1, 5, 13, 14, 32, 33, 51]), (12, [4]), (13, [0, 1, 5, 13, 14, 32, 33]), (14, [0, 1, 13, 14]), (15, [4])]⟩
theorem same8_ok {n1 n2 n3 n4 : Option Bool} {a b : List (List (List Int))} (hl : a.length ≤ 1000000000000) (hl2 : ∀ x ∈ a, x.length ≤ 1000000000000 ∧ ∀ y ∈ x, y.length ≤ 1000000000000) : Impl Try.prog 51 [.sl none n1 1 true (gl (rowsN n3) a), .sl none n2 1 true (gl (rowsN n4) b)] (.b (decide (a = b))) := by
  refine impl_of (fn := Try.f51) tbl_ok (by kernel_rfl) (by kernel_rfl) rfl ⟨by simp [Try.f51], by decide⟩ rfl fun W0 => ?_
  repeat' first
    | apply WP.seq
    | (apply WP.region (E := eSame8) mixed tbl_ok; conv => whnf)
    | (apply WP.cond; conv => whnf)
    | (apply WP.skip; conv => whnf)
    | (apply WP.ret; conv => whnf)
    | apply WP.block
    | (apply reg_and; (· kernel_rfl); conv => whnf)
    | (apply ex_glen; conv => whnf)
    | (apply ex_eq; conv => whnf)
    | (apply And.intro; (· first | with_reducible rfl | exact trivial | exact Or.inl ⟨rfl, rfl⟩ | exact Or.inr rfl | decide | omega | (apply Nat.le_of_ble_eq_true; rfl) | (dsimp only; omega) | (simp only [ints_len, gl_len, mp_len, List.length_cons, List.length_nil, List.length_drop, List.length_take]; omega)); conv => whnf)
    | apply br_not
    | (apply br_dec <;> intro hbr <;> (first | rw [decide_eq_true hbr] | rw [decide_eq_false hbr] | skip) <;> conv => whnf)
    | fail
  · refine WP.loopM [5, 6, 14, 15, 27, 32, 33, 34, 51] (fun i : Nat => [(14, .i .i64 i)]) (fun i => i ≤ a.length ∧ ∀ j, j < i → a.getD j [] = b.getD j []) (fun i => a.length - i) 0 ?_
    conv => whnf
    refine And.intro (And.intro ?_ ?_) (fun i hi => ?_)
    · exact ⟨by omega, fun j hj => absurd hj (by omega)⟩
    · conv => whnf
      repeat' first
        | apply True.intro
        | (apply ptr_and; (· kernel_rfl); conv => whnf)
        | omega
        | (apply Or.inr; rfl)
        | (apply or_row; (· rfl); (· rfl); rfl)
        | (apply And.intro <;> conv => whnf)
        | fail
    conv => whnf
    obtain ⟨hi1, hi2⟩ := hi
    have ha := fun h => gl_at (f := rowsN n3) (l := a) (i := i) [] h
    have hb := fun h => gl_at (f := rowsN n4) (l := b) (i := i) [] h
    have hx2 := fun h => hl2 _ (getD_in (l := a) (i := i) [] h)
    obtain ⟨x, hx⟩ : ∃ x, x = a.getD i [] := ⟨_, rfl⟩
    obtain ⟨y, hy⟩ : ∃ y, y = b.getD i [] := ⟨_, rfl⟩
    have hxy : a = b → x = y := fun e => by rw [hx, hy, e]
    rw [← hx] at ha hx2
    rw [← hy] at hb
    repeat' first
      | (rw [fz_rows]; conv => whnf)
      | apply WP.seq
      | (apply WP.region (E := eSame8) mixed tbl_ok; conv => whnf)
      | (apply WP.cond; conv => whnf)
      | (apply WP.skip; conv => whnf)
      | (apply WP.ret; conv => whnf)
      | (apply WP.exit; conv => whnf)
      | apply WP.block
      | (apply ex_at (ha (by omega)); conv => whnf)
      | (apply ex_at (hb (by omega)); conv => whnf)
      | (apply reg_and; (· kernel_rfl); conv => whnf)
      | (apply ex_glen; conv => whnf)
      | (apply ex_eq; conv => whnf)
      | (apply nd_gl; (· omega); conv => whnf)
      | (apply And.intro; (· first | with_reducible rfl | exact trivial | exact Or.inl ⟨rfl, rfl⟩ | exact Or.inr rfl | decide | omega | (apply Nat.le_of_ble_eq_true; rfl) | (dsimp only; omega) | (simp only [ints_len, gl_len, mp_len, List.length_cons, List.length_nil, List.length_drop, List.length_take]; omega)); conv => whnf)
      | apply br_not
      | (apply br_dec <;> intro hbr <;> (first | rw [decide_eq_true hbr] | rw [decide_eq_false hbr] | skip) <;> conv => whnf)
      | fail
    · refine WP.loopM [6, 33, 34, 51] (fun j : Nat => [(33, .i .i64 j)]) (fun j => j ≤ x.length ∧ ∀ k, k < j → x.getD k [] = y.getD k []) (fun j => x.length - j) 0 ?_
      conv => whnf
      refine And.intro (And.intro ?_ ?_) (fun j hj => ?_)
      · exact ⟨by omega, fun j hj => absurd hj (by omega)⟩
      · conv => whnf
        repeat' first
          | apply True.intro
          | (apply ptr_and; (· kernel_rfl); conv => whnf)
          | omega
          | (apply Or.inr; rfl)
          | (apply or_row; (· rfl); (· rfl); rfl)
          | (apply And.intro <;> conv => whnf)
          | fail
      conv => whnf
      obtain ⟨hj1, hj2⟩ := hj
      have hu := fun h => gl_at (f := rowA none) (l := x) (i := j) [] h
      have hv := fun h => gl_at (f := rowA none) (l := y) (i := j) [] h
      have hu2 := fun h h2 => (hx2 h).2 _ (getD_in (l := x) (i := j) [] h2)
      obtain ⟨u, hu1⟩ : ∃ u, u = x.getD j [] := ⟨_, rfl⟩
      obtain ⟨v, hv1⟩ : ∃ v, v = y.getD j [] := ⟨_, rfl⟩
      have huv : x = y → u = v := fun e => by rw [hu1, hv1, e]
      rw [← hu1] at hu hu2
      rw [← hv1] at hv
      repeat' first
        | (rw [fz_rows]; conv => whnf)
        | apply WP.seq
        | (apply WP.region (E := eSame8) mixed tbl_ok; conv => whnf)
        | (apply WP.cond; conv => whnf)
        | (apply WP.skip; conv => whnf)
        | (apply WP.ret; conv => whnf)
        | (apply WP.exit; conv => whnf)
        | apply WP.block
        | (apply ex_at (ha (by omega)); conv => whnf)
        | (apply ex_at (hb (by omega)); conv => whnf)
        | (apply ex_at (hu (by omega)); conv => whnf)
        | (apply ex_at (hv (by omega)); conv => whnf)
        | (apply reg_and; (· kernel_rfl); conv => whnf)
        | (apply ex_and; (· with_reducible exact same3_ok (hu2 (by omega) (by omega))); conv => whnf)
        | (apply ex_i64; (· omega); conv => whnf)
        | (apply ex_eq; conv => whnf)
        | (apply nd_gl; (· omega); conv => whnf)
        | (apply And.intro; (· first | with_reducible rfl | exact trivial | exact Or.inl ⟨rfl, rfl⟩ | exact Or.inr rfl | decide | omega | (apply Nat.le_of_ble_eq_true; rfl) | (dsimp only; omega) | (simp only [ints_len, gl_len, mp_len, List.length_cons, List.length_nil, List.length_drop, List.length_take]; omega)); conv => whnf)
        | apply br_not
        | (apply br_dec <;> intro hbr <;> (first | rw [decide_eq_true hbr] | rw [decide_eq_false hbr] | skip) <;> conv => whnf)
        | fail
      · refine Exists.intro (j + 1) (And.intro (And.intro ⟨by omega, fun k hk => ?_⟩ (by omega)) ?_)
        · by_cases e : k = j
          · subst e; rw [← hu1, ← hv1]; assumption
          · exact hj2 k (by omega)
        · conv => whnf
          repeat' first
            | apply True.intro
            | (apply ptr_and; (· kernel_rfl); conv => whnf)
            | omega
            | (apply Or.inr; rfl)
            | (apply or_row; (· rfl); (· rfl); rfl)
            | (apply And.intro <;> conv => whnf)
            | fail
      · refine (decide_eq_false fun e => ?_).symm
        exact absurd (huv (hxy e)) (by assumption)
      · have exy : x = y := lists_ext (d := []) (by omega) fun k hk => hj2 k (by omega)
        refine Exists.intro (i + 1) (And.intro (And.intro ⟨by omega, fun k hk => ?_⟩ (by omega)) ?_)
        · by_cases e : k = i
          · subst e; rw [← hx, ← hy]; assumption
          · exact hi2 k (by omega)
        · conv => whnf
          repeat' first
            | apply True.intro
            | (apply ptr_and; (· kernel_rfl); conv => whnf)
            | omega
            | (apply Or.inr; rfl)
            | (apply or_row; (· rfl); (· rfl); rfl)
            | (apply And.intro <;> conv => whnf)
            | fail
    · refine (decide_eq_false fun e => ?_).symm
      have := hxy e
      subst this; omega
    · exact (decide_eq_true (lists_ext (d := []) (by omega) fun j hj => hi2 j (by omega))).symm
  · refine (decide_eq_false fun e => ?_).symm
    subst e; omega
end Go.Proofs.Ytjihjjbieeofdaa.T
namespace Go.Proofs.Ytjihjjbieeofdaa.T
set_option linter.unusedSimpArgs false
set_option linter.unusedVariables false
open Go
set_option linter.unusedVariables false
set_option maxHeartbeats 8000000
set_option maxRecDepth 100000
theorem rapply_okM {nl nv : Option Bool} {r c : Nat} {m : MatD} {v : List Int} (h : MatG r c m) (hv : v.length = c) (hw : I32s v) : Impl Try.prog 97 [matA none nl m.r m.c m.d, .sl none nv 1 false (ints .i32 v)] (rowA (some 0) (sApply r c m.d v)) := by
  obtain ⟨h1, h2, h3⟩ := h
  rw [h1, h2]; exact rapply_ok h3 hv hw
theorem rrow_okM {nl : Option Bool} {r c : Nat} {m : MatD} (h : MatG r c m) {i : Nat} (hi : i < r) : Impl Try.prog 113 [matA none nl m.r m.c m.d, .i .i64 i] (rowA (some 0) (sRow c m.d i)) := by
  obtain ⟨h1, h2, h3⟩ := h
  rw [h1, h2]; exact rrow_ok h3 hi
def eRBegin : Env := ⟨tbl, [], [], [], [(0, [1, 2, 3, 4999, 4000, 4001, 4002, 4003, 4004, 4005, 4006, 4007]), (1, [1, 2, 3, 7, 4999, 4000, 4001, 4002, 4003, 4004, 4005, 4006, 4007]), (2, [2, 7, 14, 15, 16]), (3, [2, 7, 14, 15, 16, 17]), (4, [2, 7, 8, 9, 14, 15, 16]), (5, [2, 7, 14, 15, 16]), (6, [2, 7, 14, 15, 16]), (7, [6])]⟩
theorem rbegin_ok {V D H L : Nat} {w : Wts} {t a : Nat} (hg : WtsG V D H L w) (ht : t < V) (ha : a ≤ 1000) (hD : D ≤ 128) : Impl Try.prog 118 [wtsA none none w, .i .i64 t, .i .i64 a] (rowA (some 0) (sBegin D w t a)) := by
  have l1 := sRow_len D w.embed.d t
  have hw := sRow_i32 (c := D) (i := t) hg.embed.2.2.i32
  have hrow : ∀ {nl : Option Bool}, Impl Try.prog 113 [matA none nl w.embed.r w.embed.c w.embed.d, .i .i64 t] (rowA (some 0) (sRow D w.embed.d t)) := rrow_okM hg.embed ht
  have e : sBegin D w t a = sPlace (sRow D w.embed.d t) a := rfl
  rw [e]
  generalize sRow D w.embed.d t = row at *
  refine impl_of (fn := Try.f118) tbl_ok (by kernel_rfl) (by kernel_rfl) rfl ⟨by simp [Try.f118], by decide⟩ rfl fun W0 => ?_
  repeat' first
    | apply WP.seq
    | (apply WP.region (E := eRBegin) mixed tbl_ok; conv => whnf)
    | apply WP.block
    | (apply reg_and; (· kernel_rfl); conv => whnf)
    | (apply ex_and; (· with_reducible exact hrow); conv => whnf)
    | (apply ex_ilen; conv => whnf)
    | fail
  refine WP.loopM [7, 8, 9, 16, 17] (fun i : Nat => [(7, .sl (some 0) none 1 false (ints .i32 (mp i fun j => sSat (row.getD j 0 + sSat ((a : Int) * ((j % 3 : Nat) : Int) * 4096))))), (16, .i .i64 i)]) (fun i => i ≤ row.length) (fun i => row.length - i) 0 ?_
  conv => whnf
  refine And.intro (And.intro ?_ ?_) (fun i hi => ?_)
  · first | omega | trivial | skip
  · conv => whnf
    repeat' first
      | apply True.intro
      | (apply ptr_and; (· kernel_rfl); conv => whnf)
      | omega
      | (apply Or.inr; rfl)
      | (apply Or.inl; rfl)
      | (apply or_row; (· rfl); (· rfl); rfl)
      | (apply And.intro <;> conv => whnf)
      | fail
  conv => whnf
  have hm : (a : Int) * ((i : Int) % 3) = ((a * (i % 3) : Nat) : Int) := by simp
  have hb : a * (i % 3) ≤ 1000 * 2 := Nat.mul_le_mul ha (by omega)
  have hz := (sSat_i32 (((a * (i % 3) : Nat) : Int) * 4096))
  repeat' first
    | apply WP.seq
    | (apply WP.region (E := eRBegin) mixed tbl_ok; conv => whnf)
    | (apply WP.cond; conv => whnf)
    | (apply WP.skip; conv => whnf)
    | (apply WP.ret; conv => whnf)
    | (apply WP.exit; conv => whnf)
    | apply WP.block
    | (apply ex_as64 hm ⟨by omega, by omega⟩; conv => whnf)
    | (apply reg_and; (· kernel_rfl); conv => whnf)
    | (apply ex_and; (· with_reducible exact rsat_ok _); conv => whnf)
    | (apply ex_i64; (· omega); conv => whnf)
    | (apply ex_rem; (· omega); conv => whnf)
    | (apply ex_num; (· assumption); (· omega); intro x hx hx1 hx2; conv => whnf)
    | (apply ex_eq; conv => whnf)
    | (apply nd_ints; (· omega); conv => whnf)
    | (apply And.intro; (· first | with_reducible rfl | exact trivial | exact Or.inl ⟨rfl, rfl⟩ | exact Or.inr rfl | decide | omega | (apply Nat.le_of_ble_eq_true; rfl) | (dsimp only; omega) | (simp only [ints_len, gl_len, mp_len, List.length_cons, List.length_nil, List.length_drop, List.length_take]; omega)); conv => whnf)
    | (apply br_dec <;> intro hbr <;> (first | rw [decide_eq_true hbr] | rw [decide_eq_false hbr] | skip) <;> conv => whnf)
    | fail
  · refine Exists.intro (i + 1) (And.intro (And.intro ?_ ?_) ?_)
    · first | omega | skip
    · first | omega | skip
    conv => whnf
    repeat' first
      | apply True.intro
      | (apply ptr_and; (· kernel_rfl); conv => whnf)
      | omega
      | (apply Or.inr; rfl)
      | (apply Or.inl; rfl)
      | (apply or_row; (· rfl); (· rfl); rfl)
      | (apply or_row; (· rfl); (· rfl); apply ints_mp; subst_vars; rfl)
      | (apply And.intro <;> conv => whnf)
      | fail
  · have e : i = row.length := by omega
    subst e
    repeat' first
      | (apply or_row; (· rfl); (· rfl); rfl)
      | fail
abbrev rows3F (o : Option Nat) (l : List (List (List Int))) : AV := .sl o none 1 true (gl (rowsN (some false)) l)
def eRLikes : Env := ⟨tbl, [], [], [], [(0, [2, 3, 3999, 3000, 3001, 3002, 3003, 3004, 3005, 3006, 3007, 4999, 4000, 4001, 4002]), (1, [2, 5, 3999, 3000, 3001, 3002, 3003, 3004, 3005, 3006, 3007]), (2, [4])]⟩
theorem rlikes_ok {V D H L m l : Nat} {w : Wts} {R K W : List (List (List Int))} {x : List Int} (hD : 0 < D ∧ D ≤ 128) (hg : WtsG V D H L w) (hR : R.length = l + 1) (hR2 : (R.getD l []).length = m + 1) (hR3 : (R.getD l []).getD m [] = x) (hl : l ≤ 100) (hm : m ≤ 1000) (hx : x.length = D) (hw : I32s x) : Impl Try.prog 82 [wtsA none none w, .agg [rows3F none R, rows3F none K, rows3F none W]] (rowA (some 0) (sLikes V D w x)) := by
  obtain ⟨s1, s2⟩ := hg.last
  have l1 := sNorm_len x w.last
  have h1 : ∀ n : Int, n = l → (gl (rowsN (some false)) R)[n.toNat]? = some (rowsN (some false) (R.getD l [])) := fun n hn => by rw [hn]; exact gl_at [] (by omega)
  have h2 : ∀ n : Int, n = m → (gl (rowA none) (R.getD l []))[n.toNat]? = some (rowA none x) := fun n hn => by rw [hn, ← hR3]; exact gl_at [] (by omega)
  generalize R.getD l [] = r at *
  refine impl_of (fn := Try.f82) tbl_ok (by kernel_rfl) (by kernel_rfl) rfl ⟨by simp [Try.f82], by decide⟩ rfl fun W0 => ?_
  repeat' first
    | (rw [fz_rows]; conv => whnf)
    | apply WP.seq
    | (apply WP.region (E := eRLikes) mixed tbl_ok; conv => whnf)
    | (apply WP.ret; conv => whnf)
    | (apply ex_at (h1 _ (by omega)); conv => whnf)
    | (apply ex_at (h2 _ (by omega)); conv => whnf)
    | (apply reg_and; (· kernel_rfl); conv => whnf)
    | (apply ex_and; (· with_reducible exact rnorm_ok (by omega) (by omega) (by omega) hw s2); conv => whnf)
    | (apply ex_and; (· with_reducible exact rapply_okM hg.out (by omega) (sNorm_i32 _ _)); conv => whnf)
    | (apply ex_glen; conv => whnf)
    | (apply ex_i64; (· omega); conv => whnf)
    | (apply nd_gl; (· omega); conv => whnf)
    | (apply And.intro; (· first | with_reducible rfl | exact trivial | exact Or.inl ⟨rfl, rfl⟩ | exact Or.inr rfl | decide | omega | (apply Nat.le_of_ble_eq_true; rfl) | (dsimp only; omega) | (simp only [ints_len, gl_len, mp_len, List.length_cons, List.length_nil, List.length_drop, List.length_take]; omega)); conv => whnf)
    | fail
  repeat' first
    | (apply or_row; (· rfl); (· rfl); rfl)
    | fail
end Go.Proofs.Ytjihjjbieeofdaa.T
namespace Go.Proofs.Ytjihjjbieeofdaa.T
set_option linter.unusedSimpArgs false
set_option linter.unusedVariables false
open Go
set_option linter.unusedVariables false
set_option maxHeartbeats 8000000
set_option maxRecDepth 100000
theorem rise_eq {r c : Nat} {d v : List Int} : (mp r fun i => if 0 > (sApply r c d v).getD i 0 then 0 else (sApply r c d v).getD i 0) = sRise (sApply r c d v) := by
  unfold sRise
  rw [sApply_len]
  refine mp_congr fun j hj => ?_
  have e : (sApply r c d v).getD j 0 = sDot (sRow c d j) v := by unfold sApply; rw [mp_get hj]
  have h : sSat (sDot (sRow c d j) v) = sDot (sRow c d j) v := by unfold sDot; exact sSat_id (sSat_in _)
  rw [e, h]
def eGo : Env := ⟨tbl, [], [60, 62, 104, 111, 116, 122], [], [(0, [3, 4, 5, 6, 8, 5999, 5000, 5001, 5002, 5003, 5004, 6999, 6000, 6001, 6002, 6003, 6004, 6005, 6006, 6007, 7999, 7000, 7001, 7002, 9999, 9000, 9001, 9002]), (1, [3, 4, 5, 6, 8, 9, 5999, 5000, 5001, 5002, 5003, 5004, 6999, 6000, 6001, 6002, 6003, 6004, 6005, 6006, 6007, 7999, 7000, 7001, 7002, 9999, 9000, 9001, 9002, 10999, 10000, 10001, 10002]), (2, [3, 4, 5, 6, 8, 9, 10, 5999, 5000, 5001, 5002, 5003, 5004, 6999, 6000, 6001, 6002, 6003, 6004, 6005, 6006, 6007, 7999, 7000, 7001, 7002, 9999, 9000, 9001, 9002, 10999, 10000, 10001, 10002]), (3, [3, 4, 5, 6, 8, 9, 10, 26, 5999, 5000, 5001, 5002, 5003, 5004, 6999, 6000, 6001, 6002, 6003, 6004, 6005, 6006, 6007, 7999, 7000, 7001, 7002, 9999, 9000, 9001, 9002, 10999, 10000, 10001, 10002]), (4, [3, 4, 5, 6, 8, 9, 10, 5999, 5000, 5001, 5002, 5003, 5004, 6999, 6000, 6001, 6002, 6003, 6004, 6005, 6006, 6007, 7999, 7000, 7001, 7002, 9999, 9000, 9001, 9002, 10999, 10000, 10001, 10002]), (5, [4, 5, 6, 8, 9, 11, 5999, 5000, 5001, 5002, 5003, 5004, 6999, 6000, 6001, 6002, 6003, 6004, 6005, 6006, 6007, 7999, 7000, 7001, 7002, 9999, 9000, 9001, 9002, 10999, 10000, 10001, 10002]), (6, [4, 5, 6, 8, 9, 11, 12, 5999, 5000, 5001, 5002, 5003, 5004, 6999, 6000, 6001, 6002, 6003, 6004, 6005, 6006, 6007, 7999, 7000, 7001, 7002, 9999, 9000, 9001, 9002, 10999, 10000, 10001, 10002]), (7, [4, 5, 6, 8, 9, 11, 12, 39, 5999, 5000, 5001, 5002, 5003, 5004, 6999, 6000, 6001, 6002, 6003, 6004, 6005, 6006, 6007, 7999, 7000, 7001, 7002, 9999, 9000, 9001, 9002, 10999, 10000, 10001, 10002]), (8, [4, 5, 6, 8, 9, 11, 12, 5999, 5000, 5001, 5002, 5003, 5004, 6999, 6000, 6001, 6002, 6003, 6004, 6005, 6006, 6007, 7999, 7000, 7001, 7002, 9999, 9000, 9001, 9002, 10999, 10000, 10001, 10002]), (9, [4, 5, 6, 8, 9, 11, 12, 13, 5999, 5000, 5001, 5002, 5003, 5004, 6999, 6000, 6001, 6002, 6003, 6004, 6005, 6006, 6007, 7999, 7000, 7001, 7002, 9999, 9000, 9001, 9002, 10999, 10000, 10001, 10002]), (10, [4, 5, 6, 8, 9, 11, 12, 13, 47, 5999, 5000, 5001, 5002, 5003, 5004, 6999, 6000, 6001, 6002, 6003, 6004, 6005, 6006, 6007, 7999, 7000, 7001, 7002, 9999, 9000, 9001, 9002, 10999, 10000, 10001, 10002]), (11, [4, 5, 6, 8, 9, 11, 12, 13, 5999, 5000, 5001, 5002, 5003, 5004, 6999, 6000, 6001, 6002, 6003, 6004, 6005, 6006, 6007, 7999, 7000, 7001, 7002, 9999, 9000, 9001, 9002, 10999, 10000, 10001, 10002]), (12, [4, 5, 6, 8, 9, 11, 12, 5999, 5000, 5001, 5002, 5003, 5004, 6999, 6000, 6001, 6002, 6003, 6004, 6005, 6006, 6007, 7999, 7000, 7001, 7002, 9999, 9000, 9001, 9002, 10999, 10000, 10001, 10002]), (13, [4, 5, 6, 8, 9, 11, 12, 67, 5999, 5000, 5001, 5002, 5003, 5004, 6999, 6000, 6001, 6002, 6003, 6004, 6005, 6006, 6007, 7999, 7000, 7001, 7002, 9999, 9000, 9001, 9002, 10999, 10000, 10001, 10002]), (14, [4, 5, 6, 8, 9, 11, 12, 14, 5999, 5000, 5001, 5002, 5003, 5004, 6999, 6000, 6001, 6002, 6003, 6004, 6005, 6006, 6007, 7999, 7000, 7001, 7002, 9999, 9000, 9001, 9002, 10999, 10000, 10001, 10002, 15999, 15000, 15001, 15002, 15003, 15004, 15005, 15006, 15007, 15008, 15009, 15010, 15011, 15012, 15013, 15014, 15015, 15016, 15017, 15018, 15019]), (15, [4, 5, 6, 8, 9, 11, 12, 14, 15, 16, 5999, 5000, 5001, 5002, 5003, 5004, 6999, 6000, 6001, 6002, 6003, 6004, 6005, 6006, 6007, 7999, 7000, 7001, 7002, 9999, 9000, 9001, 9002, 10999, 10000, 10001, 10002, 15999, 15000, 15001, 15002, 15003, 15004, 15005, 15006, 15007, 15008, 15009, 15010, 15011, 15012, 15013, 15014, 15015, 15016, 15017, 15018, 15019]), (16, [4, 5, 6, 8, 9, 11, 12, 14, 15, 16, 79, 5999, 5000, 5001, 5002, 5003, 5004, 6999, 6000, 6001, 6002, 6003, 6004, 6005, 6006, 6007, 7999, 7000, 7001, 7002, 9999, 9000, 9001, 9002, 10999, 10000, 10001, 10002, 15999, 15000, 15001, 15002, 15003, 15004, 15005, 15006, 15007, 15008, 15009, 15010, 15011, 15012, 15013, 15014, 15015, 15016, 15017, 15018, 15019]), (17, [4, 5, 6, 8, 9, 11, 12, 14, 15, 16, 5999, 5000, 5001, 5002, 5003, 5004, 6999, 6000, 6001, 6002, 6003, 6004, 6005, 6006, 6007, 7999, 7000, 7001, 7002, 9999, 9000, 9001, 9002, 10999, 10000, 10001, 10002, 15999, 15000, 15001, 15002, 15003, 15004, 15005, 15006, 15007, 15008, 15009, 15010, 15011, 15012, 15013, 15014, 15015, 15016, 15017, 15018, 15019]), (18, [4, 5, 6, 8, 9, 11, 12, 14, 15, 16, 5999, 5000, 5001, 5002, 5003, 5004, 6999, 6000, 6001, 6002, 6003, 6004, 6005, 6006, 6007, 7999, 7000, 7001, 7002, 9999, 9000, 9001, 9002, 10999, 10000, 10001, 10002, 15999, 15000, 15001, 15002, 15003, 15004, 15005, 15006, 15007, 15008, 15009, 15010, 15011, 15012, 15013, 15014, 15015, 15016, 15017, 15018, 15019]), (19, [4, 5, 6, 8, 9, 11, 12, 14, 15, 16, 17, 5999, 5000, 5001, 5002, 5003, 5004, 6999, 6000, 6001, 6002, 6003, 6004, 6005, 6006, 6007, 7999, 7000, 7001, 7002, 9999, 9000, 9001, 9002, 10999, 10000, 10001, 10002, 15999, 15000, 15001, 15002, 15003, 15004, 15005, 15006, 15007, 15008, 15009, 15010, 15011, 15012, 15013, 15014, 15015, 15016, 15017, 15018, 15019]), (20, [4, 5, 6, 8, 9, 11, 12, 14, 15, 16, 17, 5999, 5000, 5001, 5002, 5003, 5004, 6999, 6000, 6001, 6002, 6003, 6004, 6005, 6006, 6007, 7999, 7000, 7001, 7002, 9999, 9000, 9001, 9002, 10999, 10000, 10001, 10002, 15999, 15000, 15001, 15002, 15003, 15004, 15005, 15006, 15007, 15008, 15009, 15010, 15011, 15012, 15013, 15014, 15015, 15016, 15017, 15018, 15019]), (21, [4, 5, 6, 8, 9, 11, 12, 14, 15, 16, 17, 5999, 5000, 5001, 5002, 5003, 5004, 6999, 6000, 6001, 6002, 6003, 6004, 6005, 6006, 6007, 7999, 7000, 7001, 7002, 9999, 9000, 9001, 9002, 10999, 10000, 10001, 10002, 15999, 15000, 15001, 15002, 15003, 15004, 15005, 15006, 15007, 15008, 15009, 15010, 15011, 15012, 15013, 15014, 15015, 15016, 15017, 15018, 15019]), (22, [4, 5, 6, 8, 9, 11, 12, 14, 15, 16, 17, 5999, 5000, 5001, 5002, 5003, 5004, 6999, 6000, 6001, 6002, 6003, 6004, 6005, 6006, 6007, 7999, 7000, 7001, 7002, 9999, 9000, 9001, 9002, 10999, 10000, 10001, 10002, 15999, 15000, 15001, 15002, 15003, 15004, 15005, 15006, 15007, 15008, 15009, 15010, 15011, 15012, 15013, 15014, 15015, 15016, 15017, 15018, 15019]), (23, [4, 5, 6, 8, 9, 11, 12, 14, 15, 16, 17, 5999, 5000, 5001, 5002, 5003, 5004, 6999, 6000, 6001, 6002, 6003, 6004, 6005, 6006, 6007, 7999, 7000, 7001, 7002, 9999, 9000, 9001, 9002, 10999, 10000, 10001, 10002, 15999, 15000, 15001, 15002, 15003, 15004, 15005, 15006, 15007, 15008, 15009, 15010, 15011, 15012, 15013, 15014, 15015, 15016, 15017, 15018, 15019]), (24, [4, 5, 6, 8, 9, 12, 14, 18, 5999, 5000, 5001, 5002, 5003, 5004, 6999, 6000, 6001, 6002, 6003, 6004, 6005, 6006, 6007, 7999, 7000, 7001, 7002, 9999, 9000, 9001, 9002, 10999, 10000, 10001, 10002, 15999, 15000, 15001, 15002, 15003, 15004, 15005, 15006, 15007, 15008, 15009, 15010, 15011, 15012, 15013, 15014, 15015, 15016, 15017, 15018, 15019]), (25, [4, 5, 6, 8, 9, 12, 14, 18, 19, 5999, 5000, 5001, 5002, 5003, 5004, 6999, 6000, 6001, 6002, 6003, 6004, 6005, 6006, 6007, 7999, 7000, 7001, 7002, 9999, 9000, 9001, 9002, 10999, 10000, 10001, 10002, 15999, 15000, 15001, 15002, 15003, 15004, 15005, 15006, 15007, 15008, 15009, 15010, 15011, 15012, 15013, 15014, 15015, 15016, 15017, 15018, 15019]), (26, [4, 5, 6, 8, 9, 12, 14, 18, 19, 145, 146, 147, 5999, 5000, 5001, 5002, 5003, 5004, 6999, 6000, 6001, 6002, 6003, 6004, 6005, 6006, 6007, 7999, 7000, 7001, 7002, 9999, 9000, 9001, 9002, 10999, 10000, 10001, 10002, 15999, 15000, 15001, 15002, 15003, 15004, 15005, 15006, 15007, 15008, 15009, 15010, 15011, 15012, 15013, 15014, 15015, 15016, 15017, 15018, 15019]), (27, [4, 5, 6, 8, 9, 12, 14, 18, 19, 145, 146, 147, 148, 5999, 5000, 5001, 5002, 5003, 5004, 6999, 6000, 6001, 6002, 6003, 6004, 6005, 6006, 6007, 7999, 7000, 7001, 7002, 9999, 9000, 9001, 9002, 10999, 10000, 10001, 10002, 15999, 15000, 15001, 15002, 15003, 15004, 15005, 15006, 15007, 15008, 15009, 15010, 15011, 15012, 15013, 15014, 15015, 15016, 15017, 15018, 15019]), (28, [4, 5, 6, 8, 9, 12, 14, 18, 19, 21, 145, 146, 147, 5999, 5000, 5001, 5002, 5003, 5004, 6999, 6000, 6001, 6002, 6003, 6004, 6005, 6006, 6007, 7999, 7000, 7001, 7002, 9999, 9000, 9001, 9002, 10999, 10000, 10001, 10002, 15999, 15000, 15001, 15002, 15003, 15004, 15005, 15006, 15007, 15008, 15009, 15010, 15011, 15012, 15013, 15014, 15015, 15016, 15017, 15018, 15019]), (29, [4, 5, 6, 8, 9, 12, 14, 18, 19, 145, 146, 147, 5999, 5000, 5001, 5002, 5003, 5004, 6999, 6000, 6001, 6002, 6003, 6004, 6005, 6006, 6007, 7999, 7000, 7001, 7002, 9999, 9000, 9001, 9002, 10999, 10000, 10001, 10002, 15999, 15000, 15001, 15002, 15003, 15004, 15005, 15006, 15007, 15008, 15009, 15010, 15011, 15012, 15013, 15014, 15015, 15016, 15017, 15018, 15019]), (30, [4, 5, 6, 8, 9, 12, 14, 18, 19, 145, 146, 147, 5999, 5000, 5001, 5002, 5003, 5004, 6999, 6000, 6001, 6002, 6003, 6004, 6005, 6006, 6007, 7999, 7000, 7001, 7002, 9999, 9000, 9001, 9002, 10999, 10000, 10001, 10002, 15999, 15000, 15001, 15002, 15003, 15004, 15005, 15006, 15007, 15008, 15009, 15010, 15011, 15012, 15013, 15014, 15015, 15016, 15017, 15018, 15019]), (31, [4, 5, 6, 8, 9, 11, 12, 5999, 5000, 5001, 5002, 5003, 5004, 6999, 6000, 6001, 6002, 6003, 6004, 6005, 6006, 6007, 7999, 7000, 7001, 7002, 9999, 9000, 9001, 9002, 10999, 10000, 10001, 10002]), (32, [8, 9999, 9000, 9001, 9002])]⟩
theorem rgo_ok {c : Cfg} {V D H L n s m t : Nat} {w : Wts} {F0 : Nat → List Int} {rG kG vG : List (List (List Int))} (hcL : c.layers = L) (hL : L ≤ 4) (hc : c.heads = n) (hn : 1 ≤ n ∧ n ≤ 4) (hns : n * s = D) (hD : 0 < D ∧ D ≤ 32) (hH : 0 < H ∧ H ≤ 64) (hg : WtsG V D H L w) (ht : t < V) (hm : m ≤ 127) (hF0 : F0 m = sBegin D w t m) (hF : ∀ i, i < m + 1 → (F0 i).length = D ∧ I32s (F0 i))
    (hP : (m = 0 ∧ rG.length = 0 ∧ kG.length = 0 ∧ vG.length = 0) ∨ (0 < m ∧ rG.length = L + 1 ∧ kG.length = L ∧ vG.length = L)) (hr : ∀ l, l < rG.length → rG.getD l [] = mp m (X D H s w F0 l)) (hk : ∀ l, l < kG.length → kG.getD l [] = mp m (kF D H s w F0 l)) (hv : ∀ l, l < vG.length → vG.getD l [] = mp m (vF D H s w F0 l)) :
    Impl Try.prog 99 [cfgA c, wtsA none none w, .agg [rows3F none rG, rows3F none kG, rows3F none vG], .i .i64 t] (.agg [rows3F (some 0) (mp (L + 1) fun l => mp (m + 1) (X D H s w F0 l)), rows3F (some 0) (mp L fun l => mp (m + 1) (kF D H s w F0 l)), rows3F (some 0) (mp L fun l => mp (m + 1) (vF D H s w F0 l))]) := by
  have hwl := hg.layers
  have hX := fun l hl => X_ok (V := V) (H := H) (L := L) (s := s) (w := w) (m := m + 1) (F0 := F0) hF l hl
  have hbeg : ∀ a : Int, a = m → Impl Try.prog 118 [wtsA none none w, .i .i64 t, .i .i64 a] (rowA (some 0) (F0 m)) := fun a ha => by rw [ha, hF0]; exact rbegin_ok hg ht (by omega) (by omega)
  have h0 : 0 < rG.length → (gl (rowsN (some false)) rG)[(0 : Int).toNat]? = some (rowsN (some false) (mp m (X D H s w F0 0))) := fun h => by rw [← hr 0 h]; exact gl_at (i := 0) [] h
  have h00 : (mp m (X D H s w F0 0)).length = m := mp_len _ _
  refine impl_of (fn := Try.f99) tbl_ok (by kernel_rfl) (by kernel_rfl) rfl ⟨by simp [Try.f99], by decide⟩ rfl fun W0 => ?_
  repeat' first
    | (apply WP.cutcM 26 [10, 26] [(10, .i .i64 m)]; (conv => whnf); apply And.intro)
    | (rw [fz_rows]; conv => whnf)
    | apply WP.seq
    | (apply WP.region (E := eGo) mixed tbl_ok; conv => whnf)
    | (apply WP.cond; conv => whnf)
    | (apply WP.skip; conv => whnf)
    | apply WP.block
    | (apply ex_at (h0 (by omega)); conv => whnf)
    | (rw [fz_blks]; conv => whnf)
    | (apply reg_and; (· kernel_rfl); conv => whnf)
    | (apply ptr_and; (· kernel_rfl); conv => whnf)
    | (apply ex_and; (· with_reducible exact hbeg _ (by omega)); conv => whnf)
    | (apply ex_glen; conv => whnf)
    | (apply ex_eq; conv => whnf)
    | (apply nd_gl; (· omega); conv => whnf)
    | (apply And.intro; (· first | with_reducible rfl | exact trivial | exact Or.inl ⟨rfl, rfl⟩ | exact Or.inr rfl | decide | omega | (apply Nat.le_of_ble_eq_true; rfl) | (dsimp only; omega) | (simp only [ints_len, gl_len, mp_len, List.length_cons, List.length_nil, List.length_drop, List.length_take]; omega)); conv => whnf)
    | (apply br_dec <;> intro hbr <;> (first | rw [decide_eq_true hbr] | rw [decide_eq_false hbr] | skip) <;> conv => whnf)
    | fail
  · repeat' first
      | apply True.intro
      | omega
      | (apply Or.inr; rfl)
      | (apply or_row; (· rfl); (· rfl); rfl)
      | (apply And.intro <;> conv => whnf)
      | fail
  · repeat' first
      | apply True.intro
      | omega
      | (apply Or.inr; rfl)
      | (apply or_row; (· rfl); (· rfl); rfl)
      | (apply And.intro <;> conv => whnf)
      | fail
  clear h0 h00 hbeg hF0 hF
  refine WP.loopM [11, 12, 13, 14, 15, 16, 17, 18, 19, 21, 39, 47, 67, 79, 145, 146, 147, 148, 10000, 10001, 10002, 15999, 15000, 15001, 15002, 15003, 15004, 15005, 15006, 15007, 15008, 15009, 15010, 15011, 15012, 15013, 15014, 15015, 15016, 15017, 15018, 15019] (fun l : Nat => [(11, rowA (some 0) (X D H s w F0 l m)), (12, .i .i64 l), (10000, rows3F (some 0) (mp l fun l => mp (m + 1) (X D H s w F0 l))), (10001, rows3F (some 0) (mp l fun l => mp (m + 1) (kF D H s w F0 l))), (10002, rows3F (some 0) (mp l fun l => mp (m + 1) (vF D H s w F0 l)))]) (fun l => l ≤ L) (fun l => L - l) 0 ?_
  conv => whnf
  refine And.intro (And.intro ?_ ?_) (fun l hl => ?_)
  · first | omega | trivial | skip
  · conv => whnf
    repeat' first
      | apply True.intro
      | (apply ptr_and; (· kernel_rfl); conv => whnf)
      | omega
      | (apply Or.inr; rfl)
      | (apply Or.inl; rfl)
      | (apply or_row; (· rfl); (· rfl); rfl)
      | (apply And.intro <;> conv => whnf)
      | fail
  conv => whnf
  have hrl : l < rG.length → (gl (rowsN (some false)) rG)[((l : Nat) : Int).toNat]? = some (rowsN (some false) (mp m (X D H s w F0 l))) := fun h => by rw [← hr l h]; exact gl_at [] h
  have hkl : l < kG.length → (gl (rowsN (some false)) kG)[((l : Nat) : Int).toNat]? = some (rowsN (some false) (mp m (kF D H s w F0 l))) := fun h => by rw [← hk l h]; exact gl_at [] h
  have hvl : l < vG.length → (gl (rowsN (some false)) vG)[((l : Nat) : Int).toNat]? = some (rowsN (some false) (mp m (vF D H s w F0 l))) := fun h => by rw [← hv l h]; exact gl_at [] h
  clear hr hk hv
  have hxs := mp_succ m (X D H s w F0 l)
  have hx := hX l (by omega) m (by omega)
  by_cases hlL : l = L
  · repeat' first
      | (apply WP.cutcM 47 [13, 47] [(13, .sl (some 0) none 1 true (gl (rowA none) (mp m (X D H s w F0 l))))]; (conv => whnf); apply And.intro)
      | (rw [fz_rows]; conv => whnf)
      | apply WP.seq
      | (apply WP.region (E := eGo) mixed tbl_ok; conv => whnf)
      | (apply WP.cond; conv => whnf)
      | (apply WP.skip; conv => whnf)
      | (apply WP.ret; conv => whnf)
      | (apply WP.exit; conv => whnf)
      | apply WP.block
      | (apply ex_at (hrl (by omega)); conv => whnf)
      | (rw [gl_snocR, ← hxs]; conv => whnf)
      | (apply reg_and; (· kernel_rfl); conv => whnf)
      | (apply ptr_and; (· kernel_rfl); conv => whnf)
      | (apply ex_glen; conv => whnf)
      | (apply ex_eq; conv => whnf)
      | (apply nd_gl; (· omega); conv => whnf)
      | (apply And.intro; (· first | with_reducible rfl | exact trivial | exact Or.inl ⟨rfl, rfl⟩ | exact Or.inr rfl | decide | omega | (apply Nat.le_of_ble_eq_true; rfl) | (dsimp only; omega) | (simp only [ints_len, gl_len, mp_len, List.length_cons, List.length_nil, List.length_drop, List.length_take]; omega)); conv => whnf)
      | (apply br_yes; (· omega); conv => whnf)
      | (apply br_dec <;> intro hbr <;> (first | rw [decide_eq_true hbr] | rw [decide_eq_false hbr] | skip) <;> conv => whnf)
      | fail
    · repeat' first
        | apply True.intro
        | omega
        | (apply Or.inr; rfl)
        | (apply Or.inl; rfl)
        | (apply or_row; (· rfl); (· rfl); rfl)
        | (apply And.intro <;> conv => whnf)
        | fail
    · repeat' first
        | apply True.intro
        | omega
        | (apply Or.inr; rfl)
        | (apply Or.inl; rfl)
        | (apply or_row; (· rfl); (· rfl); rfl)
        | (apply And.intro <;> conv => whnf)
        | fail
      have hm0 : m = 0 := by omega
      subst hm0
      exact Or.inl (And.intro rfl (And.intro rfl rfl))
    · subst hlL
      repeat' first
        | apply True.intro
        | (apply Or.inr; rfl)
        | (apply Or.inl; rfl)
        | (apply or_row; (· rfl); (· rfl); rfl)
        | (apply or_row; (· rfl); (· rfl); apply gl_mp; subst_vars; rfl)
        | (apply And.intro <;> conv => whnf)
        | fail
  obtain ⟨b, hb⟩ : ∃ b, w.blocks[l]? = some b := ⟨_, List.getElem?_eq_getElem (by omega)⟩
  have hbg : BlkG D H b := hg.blocks b (List.mem_of_getElem? hb)
  have hbat : (gl (blkA none) w.blocks)[((l : Nat) : Int).toNat]? = some (blkA none b) := by rw [Int.toNat_natCast]; unfold gl; rw [List.getElem?_map, hb]; rfl
  have hkb : ∀ i, kF D H s w F0 l i = sK D b (X D H s w F0 l i) := fun i => by unfold kF; rw [hb]
  have hvb : ∀ i, vF D H s w F0 l i = sV D b (X D H s w F0 l i) := fun i => by unfold vF; rw [hb]
  have hXn : X D H s w F0 (l + 1) m = sX D H s b (X D H s w F0 l m) (mp m (kF D H s w F0 l)) (mp m (vF D H s w F0 l)) := by
    show (match w.blocks[l]? with | some b => lx D H s b (X D H s w F0 l) m | none => []) = _
    rw [hb]
    show lx D H s b (X D H s w F0 l) m = _
    unfold lx
    rw [mp_congr fun i _ => hkb i, mp_congr fun i _ => hvb i]
  have hks := mp_succ m (kF D H s w F0 l)
  have hvs := mp_succ m (vF D H s w F0 l)
  rw [hkb m] at hks
  rw [hvb m] at hvs
  have hKR : RowsN D (mp (m + 1) (kF D H s w F0 l)) := mp_rowsN fun i hi => by rw [hkb]; exact ⟨sApply_len _ _ _ _, sApply_i32 _ _ _ _⟩
  have hVR : RowsN D (mp (m + 1) (vF D H s w F0 l)) := mp_rowsN fun i hi => by rw [hvb]; exact ⟨sApply_len _ _ _ _, sApply_i32 _ _ _ _⟩
  have hKl : (mp (m + 1) (kF D H s w F0 l)).length = m + 1 := mp_len _ _
  have hVl : (mp (m + 1) (vF D H s w F0 l)).length = m + 1 := mp_len _ _
  clear hX
  unfold sX sOne sHalf at hXn
  dsimp only at hXn
  unfold sK at hks
  unfold sV at hvs
  rw [← hks, ← hvs] at hXn
  clear hkb hvb
  obtain ⟨hx1, hx2⟩ := hx
  generalize hx' : X D H s w F0 (l + 1) m = x' at hXn
  have cN : ∀ {na ng : Option Bool}, Impl Try.prog 98 [.sl none na 1 false (ints .i32 (X D H s w F0 l m)), .sl none ng 1 false (ints .i32 b.first)] (rowA (some 0) (sNorm (X D H s w F0 l m) b.first)) := rnorm_ok (by omega) (by omega) (by rw [hbg.first.1]; omega) hx2 hbg.first.2
  have ln : (sNorm (X D H s w F0 l m) b.first).length = D := by rw [sNorm_len]; exact hx1
  have wn := sNorm_i32 (X D H s w F0 l m) b.first
  generalize sNorm (X D H s w F0 l m) b.first = n1 at *
  have cK : ∀ {nl nv : Option Bool}, Impl Try.prog 97 [matA none nl b.k.r b.k.c b.k.d, .sl none nv 1 false (ints .i32 n1)] (rowA (some 0) (sApply D D b.k.d n1)) := rapply_okM hbg.k ln wn
  have cV : ∀ {nl nv : Option Bool}, Impl Try.prog 97 [matA none nl b.v.r b.v.c b.v.d, .sl none nv 1 false (ints .i32 n1)] (rowA (some 0) (sApply D D b.v.d n1)) := rapply_okM hbg.v ln wn
  have cQ : ∀ {nl nv : Option Bool}, Impl Try.prog 97 [matA none nl b.q.r b.q.c b.q.d, .sl none nv 1 false (ints .i32 n1)] (rowA (some 0) (sApply D D b.q.d n1)) := rapply_okM hbg.q ln wn
  generalize sApply D D b.k.d n1 = k1 at *
  generalize sApply D D b.v.d n1 = v1 at *
  have lq := sApply_len D D b.q.d n1
  have wq := sApply_i32 D D b.q.d n1
  generalize sApply D D b.q.d n1 = q1 at *
  have cA : ∀ {n1 n2 n3 : Option Bool}, Impl Try.prog 120 [.sl none n1 1 false (ints .i32 q1), .sl none n2 1 true (gl (rowA none) (mp (m + 1) (kF D H s w F0 l))), .sl none n3 1 true (gl (rowA none) (mp (m + 1) (vF D H s w F0 l))), .i .i64 c.heads] (rowA (some 0) (sAttend q1 (mp (m + 1) (kF D H s w F0 l)) (mp (m + 1) (vF D H s w F0 l)) s)) := fun {n1 n2 n3} => by
    rw [hc]; exact rattend_ok hn (by omega) (by omega) (by omega) (by omega) wq (by rw [lq]; exact hKR) (by rw [lq]; exact hVR)
  have la := sAttend_len q1 (mp (m + 1) (kF D H s w F0 l)) (mp (m + 1) (vF D H s w F0 l)) s
  have wa := sAttend_i32 q1 (mp (m + 1) (kF D H s w F0 l)) (mp (m + 1) (vF D H s w F0 l)) s
  generalize sAttend q1 (mp (m + 1) (kF D H s w F0 l)) (mp (m + 1) (vF D H s w F0 l)) s = A at *
  have cO : ∀ {nl nv : Option Bool}, Impl Try.prog 97 [matA none nl b.o.r b.o.c b.o.d, .sl none nv 1 false (ints .i32 A)] (rowA (some 0) (sApply D D b.o.d A)) := rapply_okM hbg.o (by omega) wa
  have lo := sApply_len D D b.o.d A
  have wo := sApply_i32 D D b.o.d A
  generalize sApply D D b.o.d A = o1 at *
  have cY : ∀ {na nb : Option Bool}, Impl Try.prog 119 [.sl none na 1 false (ints .i32 (X D H s w F0 l m)), .sl none nb 1 false (ints .i32 o1)] (rowA (some 0) (sPlus (X D H s w F0 l m) o1)) := rplus_ok (by omega) (by omega) hx2 wo
  have ly := sPlus_len (X D H s w F0 l m) o1
  have wy := sPlus_i32 (X D H s w F0 l m) o1
  generalize sPlus (X D H s w F0 l m) o1 = y at *
  have cM : ∀ {na ng : Option Bool}, Impl Try.prog 98 [.sl none na 1 false (ints .i32 y), .sl none ng 1 false (ints .i32 b.second)] (rowA (some 0) (sNorm y b.second)) := rnorm_ok (by omega) (by omega) (by rw [hbg.second.1]; omega) wy hbg.second.2
  have lm := sNorm_len y b.second
  have wm := sNorm_i32 y b.second
  generalize sNorm y b.second = n2 at *
  have cU : ∀ {nl nv : Option Bool}, Impl Try.prog 97 [matA none nl b.up.r b.up.c b.up.d, .sl none nv 1 false (ints .i32 n2)] (rowA (some 0) (sApply H D b.up.d n2)) := rapply_okM hbg.up (by omega) wm
  have hri := rise_eq (r := H) (c := D) (d := b.up.d) (v := n2)
  have lz := sApply_len H D b.up.d n2
  have wz := sApply_i32 H D b.up.d n2
  generalize sApply H D b.up.d n2 = z at *
  have cD : ∀ {nl nv : Option Bool}, Impl Try.prog 97 [matA none nl b.down.r b.down.c b.down.d, .sl none nv 1 false (ints .i32 (sRise z))] (rowA (some 0) (sApply D H b.down.d (sRise z))) := rapply_okM hbg.down (by rw [sRise_len]; omega) (sRise_i32 _)
  generalize sRise z = r1 at *
  have ld := sApply_len D H b.down.d r1
  have wd := sApply_i32 D H b.down.d r1
  generalize sApply D H b.down.d r1 = d1 at *
  have cX : ∀ {na nb : Option Bool}, Impl Try.prog 119 [.sl none na 1 false (ints .i32 y), .sl none nb 1 false (ints .i32 d1)] (rowA (some 0) x') := fun {na nb} => by rw [hXn]; exact rplus_ok (by omega) (by omega) wy wd
  repeat' first
    | (apply WP.cutcM 47 [13, 47] [(13, .sl (some 0) none 1 true (gl (rowA none) (mp m (X D H s w F0 l))))]; (conv => whnf); apply And.intro)
    | (apply WP.cutcM 79 [15, 16, 79] [(15, .sl (some 0) none 1 true (gl (rowA none) (mp m (kF D H s w F0 l)))), (16, .sl (some 0) none 1 true (gl (rowA none) (mp m (vF D H s w F0 l))))]; (conv => whnf); apply And.intro)
    | (rw [fz_rows]; conv => whnf)
    | apply WP.seq
    | (apply WP.region (E := eGo) mixed tbl_ok; conv => whnf)
    | (apply WP.cond; conv => whnf)
    | (apply WP.skip; conv => whnf)
    | apply WP.block
    | (apply ex_at (hrl (by omega)); conv => whnf)
    | (apply ex_at (hkl (by omega)); conv => whnf)
    | (apply ex_at (hvl (by omega)); conv => whnf)
    | (apply ex_at hbat; conv => whnf)
    | (rw [gl_snocR]; conv => whnf)
    | (rw [← hxs]; conv => whnf)
    | (rw [← hks]; conv => whnf)
    | (rw [← hvs]; conv => whnf)
    | (apply reg_and; (· kernel_rfl); conv => whnf)
    | (apply ptr_and; (· kernel_rfl); conv => whnf)
    | (apply ex_and; (· with_reducible exact cN); conv => whnf)
    | (apply ex_and; (· with_reducible exact cK); conv => whnf)
    | (apply ex_and; (· with_reducible exact cV); conv => whnf)
    | (apply ex_and; (· with_reducible exact cQ); conv => whnf)
    | (apply ex_and; (· with_reducible exact cA); conv => whnf)
    | (apply ex_and; (· with_reducible exact cO); conv => whnf)
    | (apply ex_and; (· with_reducible exact cY); conv => whnf)
    | (apply ex_and; (· with_reducible exact cM); conv => whnf)
    | (apply ex_and; (· with_reducible exact cU); conv => whnf)
    | (apply ex_ilen; conv => whnf)
    | (apply ex_glen; conv => whnf)
    | (apply ex_eq; conv => whnf)
    | (apply nd_gl; (· omega); conv => whnf)
    | (apply And.intro; (· first | with_reducible rfl | exact trivial | exact Or.inl ⟨rfl, rfl⟩ | exact Or.inr rfl | decide | omega | (apply Nat.le_of_ble_eq_true; rfl) | (dsimp only; omega) | (simp only [ints_len, gl_len, mp_len, List.length_cons, List.length_nil, List.length_drop, List.length_take]; omega)); conv => whnf)
    | (apply br_yes; (· omega); conv => whnf)
    | (apply br_no; (· omega); conv => whnf)
    | (apply br_dec <;> intro hbr <;> (first | rw [decide_eq_true hbr] | rw [decide_eq_false hbr] | skip) <;> conv => whnf)
    | fail
  · repeat' first
      | apply True.intro
      | omega
      | (apply Or.inr; rfl)
      | (apply Or.inl; rfl)
      | (apply or_row; (· rfl); (· rfl); rfl)
      | (apply And.intro <;> conv => whnf)
      | fail
  · repeat' first
      | apply True.intro
      | omega
      | (apply Or.inr; rfl)
      | (apply Or.inl; rfl)
      | (apply or_row; (· rfl); (· rfl); rfl)
      | (apply And.intro <;> conv => whnf)
      | fail
    have hm0 : m = 0 := by omega
    subst hm0
    exact Or.inl (And.intro rfl (And.intro rfl rfl))
  · repeat' first
      | apply True.intro
      | omega
      | (apply Or.inr; rfl)
      | (apply Or.inl; rfl)
      | (apply or_row; (· rfl); (· rfl); rfl)
      | (apply And.intro <;> conv => whnf)
      | fail
  · repeat' first
      | apply True.intro
      | omega
      | (apply Or.inr; rfl)
      | (apply Or.inl; rfl)
      | (apply or_row; (· rfl); (· rfl); rfl)
      | (apply And.intro <;> conv => whnf)
      | fail
    all_goals have hm0 : m = 0 := by omega
    all_goals subst hm0
    all_goals exact Or.inl (And.intro rfl (And.intro rfl rfl))
  clear hrl hkl hvl hxs hks hvs cN cK cV cQ cA cO cY cM cU hbat
  refine WP.loopM [19, 21, 147, 148] (fun j : Nat => [(19, rowA (some 0) (mp j fun i => if 0 > z.getD i 0 then 0 else z.getD i 0)), (147, .i .i64 j)]) (fun j => j ≤ H) (fun j => H - j) 0 ?_
  conv => whnf
  refine And.intro (And.intro ?_ ?_) (fun j hj => ?_)
  · first | omega | trivial | skip
  · conv => whnf
    repeat' first
      | apply True.intro
      | (apply ptr_and; (· kernel_rfl); conv => whnf)
      | omega
      | (apply Or.inr; rfl)
      | (apply Or.inl; rfl)
      | (apply or_row; (· rfl); (· rfl); rfl)
      | (apply And.intro <;> conv => whnf)
      | fail
  conv => whnf
  have hjr : j = H → (mp j fun i => if 0 > z.getD i 0 then 0 else z.getD i 0) = r1 := fun e => by rw [e]; exact hri
  repeat' first
    | apply WP.seq
    | (apply WP.region (E := eGo) mixed tbl_ok; conv => whnf)
    | (apply WP.cond; conv => whnf)
    | (apply WP.skip; conv => whnf)
    | (apply WP.exit; conv => whnf)
    | apply WP.block
    | (rw [hjr (by omega)]; conv => whnf)
    | (apply reg_and; (· kernel_rfl); conv => whnf)
    | (apply ex_and; (· with_reducible exact cD); conv => whnf)
    | (apply ex_and; (· with_reducible exact cX); conv => whnf)
    | (apply ex_i64; (· omega); conv => whnf)
    | (apply ex_num; (· assumption); (· omega); intro x hx hx1 hx2; conv => whnf)
    | (apply ex_eq; conv => whnf)
    | (apply nd_ints; (· omega); conv => whnf)
    | (apply And.intro; (· first | with_reducible rfl | exact trivial | exact Or.inl ⟨rfl, rfl⟩ | exact Or.inr rfl | decide | omega | (apply Nat.le_of_ble_eq_true; rfl) | (dsimp only; omega) | (simp only [ints_len, gl_len, mp_len, List.length_cons, List.length_nil, List.length_drop, List.length_take]; omega)); conv => whnf)
    | (apply br_dec <;> intro hbr <;> (first | rw [decide_eq_true hbr] | rw [decide_eq_false hbr] | skip) <;> conv => whnf)
    | fail
  · refine Exists.intro (j + 1) (And.intro (And.intro ?_ ?_) ?_)
    · first | omega | skip
    · first | omega | skip
    conv => whnf
    repeat' first
      | apply True.intro
      | (apply ptr_and; (· kernel_rfl); conv => whnf)
      | omega
      | (apply Or.inr; rfl)
      | (apply Or.inl; rfl)
      | (apply or_row; (· rfl); (· rfl); rfl)
      | (apply or_row; (· rfl); (· rfl); apply ints_mp; subst_vars; rfl)
      | (apply And.intro <;> conv => whnf)
      | fail
    all_goals refine Or.inl (And.intro rfl (And.intro rfl (ints_mp ?_)))
    all_goals subst_vars
    all_goals rfl
  · clear hjr
    subst hx'
    refine Exists.intro (l + 1) (And.intro (And.intro ?_ ?_) ?_)
    · first | omega | skip
    · first | omega | skip
    conv => whnf
    repeat' first
      | apply True.intro
      | (apply ptr_and; (· kernel_rfl); conv => whnf)
      | omega
      | (apply Or.inr; rfl)
      | (apply Or.inl; rfl)
      | (apply or_row; (· rfl); (· rfl); rfl)
      | (apply or_row; (· rfl); (· rfl); apply gl_mp; subst_vars; rfl)
      | (apply And.intro <;> conv => whnf)
      | fail
end Go.Proofs.Ytjihjjbieeofdaa.T
namespace Go.Proofs.Ytjihjjbieeofdaa.T
set_option linter.unusedSimpArgs false
set_option linter.unusedVariables false
open Go
set_option linter.unusedVariables false
set_option maxHeartbeats 8000000
set_option maxRecDepth 100000
/-- What the document's Pass holds behind m tokens. -/
def pR (D H s L : Nat) (w : Wts) (F0 : Nat → List Int) : Nat → List (List (List Int))
  | 0 => []
  | m + 1 => mp (L + 1) fun l => mp (m + 1) (X D H s w F0 l)
def pK (D H s L : Nat) (w : Wts) (F0 : Nat → List Int) : Nat → List (List (List Int))
  | 0 => []
  | m + 1 => mp L fun l => mp (m + 1) (kF D H s w F0 l)
def pV (D H s L : Nat) (w : Wts) (F0 : Nat → List Int) : Nat → List (List (List Int))
  | 0 => []
  | m + 1 => mp L fun l => mp (m + 1) (vF D H s w F0 l)
theorem go_pass {c : Cfg} {V D H L n s m t : Nat} {w : Wts} {F0 : Nat → List Int} (hcL : c.layers = L) (hL : L ≤ 4) (hc : c.heads = n) (hn : 1 ≤ n ∧ n ≤ 4) (hns : n * s = D) (hD : 0 < D ∧ D ≤ 32) (hH : 0 < H ∧ H ≤ 64) (hg : WtsG V D H L w) (ht : t < V) (hm : m ≤ 127) (hF0 : F0 m = sBegin D w t m) (hF : ∀ i, i < m + 1 → (F0 i).length = D ∧ I32s (F0 i)) :
    Impl Try.prog 99 [cfgA c, wtsA none none w, .agg [rows3F none (pR D H s L w F0 m), rows3F none (pK D H s L w F0 m), rows3F none (pV D H s L w F0 m)], .i .i64 t] (.agg [rows3F (some 0) (pR D H s L w F0 (m + 1)), rows3F (some 0) (pK D H s L w F0 (m + 1)), rows3F (some 0) (pV D H s L w F0 (m + 1))]) := by
  refine rgo_ok hcL hL hc hn hns hD hH hg ht hm hF0 hF ?_ ?_ ?_ ?_
  · cases m with
    | zero => exact .inl ⟨rfl, rfl, rfl, rfl⟩
    | succ m => exact .inr ⟨by omega, mp_len _ _, mp_len _ _, mp_len _ _⟩
  all_goals cases m with
    | zero => intro l hl; exact absurd hl (Nat.not_lt_zero _)
    | succ m =>
      intro l hl
      first | unfold pR at * | unfold pK at * | unfold pV at *
      rw [mp_len] at hl
      unfold mp
      rw [List.getD_eq_getElem?_getD, List.getElem?_map, List.getElem?_range hl]; rfl
def eRFull : Env := ⟨tbl, [], [], [], [(0, [2, 3, 4, 6, 4999, 4000, 4001, 4002, 4003, 4004, 5999, 5000, 5001, 5002, 5003, 5004, 5005, 5006, 5007, 7999, 7000, 7001, 7002]), (1, [2, 3, 4, 6, 7, 4999, 4000, 4001, 4002, 4003, 4004, 5999, 5000, 5001, 5002, 5003, 5004, 5005, 5006, 5007, 7999, 7000, 7001, 7002, 8999, 8000, 8001, 8002]), (2, [3, 4, 6, 7, 11, 12, 13, 4999, 4000, 4001, 4002, 4003, 4004, 5999, 5000, 5001, 5002, 5003, 5004, 5005, 5006, 5007, 7999, 7000, 7001, 7002, 8999, 8000, 8001, 8002]), (3, [3, 4, 6, 7, 11, 12, 13, 14, 4999, 4000, 4001, 4002, 4003, 4004, 5999, 5000, 5001, 5002, 5003, 5004, 5005, 5006, 5007, 7999, 7000, 7001, 7002, 8999, 8000, 8001, 8002]), (4, [3, 4, 6, 7, 9, 11, 12, 13, 4999, 4000, 4001, 4002, 4003, 4004, 5999, 5000, 5001, 5002, 5003, 5004, 5005, 5006, 5007, 7999, 7000, 7001, 7002, 8999, 8000, 8001, 8002]), (5, [3, 4, 6, 7, 11, 12, 13, 4999, 4000, 4001, 4002, 4003, 4004, 5999, 5000, 5001, 5002, 5003, 5004, 5005, 5006, 5007, 7999, 7000, 7001, 7002, 8999, 8000, 8001, 8002]), (6, [3, 4, 6, 7, 11, 12, 13, 4999, 4000, 4001, 4002, 4003, 4004, 5999, 5000, 5001, 5002, 5003, 5004, 5005, 5006, 5007, 7999, 7000, 7001, 7002, 8999, 8000, 8001, 8002]), (7, [6, 7999, 7000, 7001, 7002])]⟩
theorem rfull_ok {nt : Option Bool} {c : Cfg} {V D H L n s : Nat} {w : Wts} {t : List Int} (hcL : c.layers = L) (hL : L ≤ 4) (hc : c.heads = n) (hn : 1 ≤ n ∧ n ≤ 4) (hns : n * s = D) (hD : 0 < D ∧ D ≤ 32) (hH : 0 < H ∧ H ≤ 64) (hg : WtsG V D H L w) (hl : t.length ≤ 128) (hV : ∀ x ∈ t, 0 ≤ x ∧ x < V) :
    Impl Try.prog 83 [cfgA c, wtsA none none w, .sl none nt 1 false (ints .i64 t)] (.agg [rows3F (some 0) (pR D H s L w (fun i => sBegin D w (t.getD i 0).toNat i) t.length), rows3F (some 0) (pK D H s L w (fun i => sBegin D w (t.getD i 0).toNat i) t.length), rows3F (some 0) (pV D H s L w (fun i => sBegin D w (t.getD i 0).toNat i) t.length)]) := by
  have hgo : ∀ i, i < t.length → ∃ q : Nat, t.getD ((i : Int).toNat) 0 = (q : Int) ∧ Impl Try.prog 99 [cfgA c, wtsA none none w, .agg [rows3F none (pR D H s L w (fun i => sBegin D w (t.getD i 0).toNat i) i), rows3F none (pK D H s L w (fun i => sBegin D w (t.getD i 0).toNat i) i), rows3F none (pV D H s L w (fun i => sBegin D w (t.getD i 0).toNat i) i)], .i .i64 q] (.agg [rows3F (some 0) (pR D H s L w (fun i => sBegin D w (t.getD i 0).toNat i) (i + 1)), rows3F (some 0) (pK D H s L w (fun i => sBegin D w (t.getD i 0).toNat i) (i + 1)), rows3F (some 0) (pV D H s L w (fun i => sBegin D w (t.getD i 0).toNat i) (i + 1))]) := fun i hi => by
    have := hV _ (getD_mem hi 0)
    refine ⟨(t.getD i 0).toNat, by rw [Int.toNat_natCast]; omega, go_pass hcL hL hc hn hns hD hH hg (by omega) (by omega) rfl (fun i _ => ⟨sBegin_len _ _ _ _, sBegin_i32 _ _ _ _⟩)⟩
  generalize hR : pR D H s L w (fun i => sBegin D w (t.getD i 0).toNat i) = R at *
  generalize hK : pK D H s L w (fun i => sBegin D w (t.getD i 0).toNat i) = K at *
  generalize hW : pV D H s L w (fun i => sBegin D w (t.getD i 0).toNat i) = W at *
  have r0 : R 0 = [] := by rw [← hR]; rfl
  have k0 : K 0 = [] := by rw [← hK]; rfl
  have w0 : W 0 = [] := by rw [← hW]; rfl
  clear hR hK hW
  refine impl_of (fn := Try.f83) tbl_ok (by kernel_rfl) (by kernel_rfl) rfl ⟨by simp [Try.f83], by decide⟩ rfl fun W0 => ?_
  repeat' first
    | apply WP.seq
    | (apply WP.region (E := eRFull) mixed tbl_ok; conv => whnf)
    | apply WP.block
    | (apply reg_and; (· kernel_rfl); conv => whnf)
    | (apply ex_ilen; conv => whnf)
    | fail
  refine WP.loopM [9, 13, 14, 8000, 8001, 8002] (fun i : Nat => [(13, .i .i64 i), (8000, rows3F (some 0) (R i)), (8001, rows3F (some 0) (K i)), (8002, rows3F (some 0) (W i))]) (fun i => i ≤ t.length) (fun i => t.length - i) 0 ?_
  conv => whnf
  refine And.intro (And.intro ?_ ?_) (fun i hi => ?_)
  · omega
  · conv => whnf
    repeat' first
      | apply True.intro
      | (apply ptr_and; (· kernel_rfl); conv => whnf)
      | omega
      | (apply Or.inr; rfl)
      | (apply Or.inl; rfl)
      | (apply or_row; (· rfl); (· rfl); rfl)
      | (apply And.intro <;> conv => whnf)
      | (rw [r0])
      | (rw [k0])
      | (rw [w0])
      | fail
  conv => whnf
  repeat' first
    | apply WP.seq
    | (apply WP.region (E := eRFull) mixed tbl_ok; conv => whnf)
    | (apply WP.cond; conv => whnf)
    | (apply WP.skip; conv => whnf)
    | (apply WP.ret; conv => whnf)
    | (apply WP.exit; conv => whnf)
    | apply WP.block
    | (apply ex_ints; (· omega); obtain ⟨q, hq1, hq2⟩ := hgo i (by omega); rw [hq1]; conv => whnf)
    | (rw [fz_blks]; conv => whnf)
    | (rw [fz_rowsN]; conv => whnf)
    | (apply ex_and; (· with_reducible exact hq2); conv => whnf)
    | (apply reg_and; (· kernel_rfl); conv => whnf)
    | (apply ex_i64; (· omega); conv => whnf)
    | (apply ex_eq; conv => whnf)
    | (apply nd_ints; (· omega); conv => whnf)
    | (apply And.intro; (· first | with_reducible rfl | exact trivial | exact Or.inl ⟨rfl, rfl⟩ | exact Or.inr rfl | decide | omega | (apply Nat.le_of_ble_eq_true; rfl) | (dsimp only; omega) | (simp only [ints_len, gl_len, mp_len, List.length_cons, List.length_nil, List.length_drop, List.length_take]; omega)); conv => whnf)
    | (apply br_dec <;> intro hbr <;> (first | rw [decide_eq_true hbr] | rw [decide_eq_false hbr] | skip) <;> conv => whnf)
    | fail
  · refine Exists.intro (i + 1) (And.intro (And.intro ?_ ?_) ?_)
    · first | omega | skip
    · first | omega | skip
    conv => whnf
    repeat' first
      | apply True.intro
      | (apply ptr_and; (· kernel_rfl); conv => whnf)
      | omega
      | (apply Or.inr; rfl)
      | (apply or_row; (· rfl); (· rfl); rfl)
      | (apply And.intro <;> conv => whnf)
      | fail
  · have e : i = t.length := by omega
    subst e
    repeat' first
      | apply True.intro
      | (apply Or.inr; rfl)
      | (apply or_row; (· rfl); (· rfl); rfl)
      | (apply And.intro <;> conv => whnf)
      | fail
end Go.Proofs.Ytjihjjbieeofdaa.T
namespace Go.Proofs.Ytjihjjbieeofdaa.T
set_option linter.unusedSimpArgs false
set_option linter.unusedVariables false
open Go
set_option linter.unusedVariables false
set_option maxHeartbeats 8000000
set_option maxRecDepth 100000
/-- Numbers cut: a matrix to 2000, a row to n. -/
def cutM (m : MatD) : MatD := ⟨m.r, m.c, m.d.take 2000⟩
def cutB (n : Nat) (b : Blk) : Blk := ⟨b.first.take n, cutM b.q, cutM b.k, cutM b.v, cutM b.o, b.second.take n, cutM b.up, cutM b.down⟩
def cutW (n : Nat) (k : Nat) (w : Wts) : Wts := ⟨cutM w.embed, (w.blocks.take k).map (cutB n), w.last.take n, cutM w.out⟩
structure BlkS (b : Blk) : Prop where
  first : b.first.length ≤ 140737488351232
  q : b.q.d.length ≤ 140737488351232
  k : b.k.d.length ≤ 140737488351232
  v : b.v.d.length ≤ 140737488351232
  o : b.o.d.length ≤ 140737488351232
  second : b.second.length ≤ 140737488351232
  up : b.up.d.length ≤ 140737488351232
  down : b.down.d.length ≤ 140737488351232
structure WtsS (w : Wts) : Prop where
  embed : w.embed.d.length ≤ 140737488351232
  blocks : ∀ b ∈ w.blocks, BlkS b
  len : w.blocks.length ≤ 140737488351232
  last : w.last.length ≤ 140737488351232
  out : w.out.d.length ≤ 140737488351232
theorem cut_snoc {l : List Blk} {f : Blk → Blk} {i : Nat} {a : Blk} (h : l[i]? = some a) : gl (blkA none) ((l.take i).map f) ++ [blkA none (f a)] = gl (blkA none) ((l.take (i + 1)).map f) := by
  rw [List.take_add_one, h, List.map_append]
  unfold gl
  rw [List.map_append]; rfl
theorem take_cap {α : Type} {l : List α} {i n : Nat} (h : i = n ∨ (l.length ≤ i ∧ i ≤ n)) : l.take i = l.take n := by
  rcases h with rfl | h
  · rfl
  · rw [List.take_of_length_le (by omega), List.take_of_length_le (by omega)]
def eTold : Env := ⟨tbl, [], [60], [], [(0, [1, 2, 2999, 2000, 2001, 2002, 2003, 2004, 2005, 2006, 2007, 3999, 3000, 3001, 3002, 3003, 3004, 3005, 3006, 3007]), (1, [1, 2, 3, 2999, 2000, 2001, 2002, 2003, 2004, 2005, 2006, 2007, 3999, 3000, 3001, 3002, 3003, 3004, 3005, 3006, 3007, 4999, 4000, 4001, 4002, 4003, 4004, 4005, 4006, 4007]), (2, [1, 2, 3, 4, 2999, 2000, 2001, 2002, 2003, 2004, 2005, 2006, 2007, 3999, 3000, 3001, 3002, 3003, 3004, 3005, 3006, 3007, 4999, 4000, 4001, 4002, 4003, 4004, 4005, 4006, 4007]), (3, [1, 2, 3, 4, 24, 2999, 2000, 2001, 2002, 2003, 2004, 2005, 2006, 2007, 3999, 3000, 3001, 3002, 3003, 3004, 3005, 3006, 3007, 4999, 4000, 4001, 4002, 4003, 4004, 4005, 4006, 4007]), (4, [1, 2, 3, 4, 2999, 2000, 2001, 2002, 2003, 2004, 2005, 2006, 2007, 3999, 3000, 3001, 3002, 3003, 3004, 3005, 3006, 3007, 4999, 4000, 4001, 4002, 4003, 4004, 4005, 4006, 4007]), (5, [1, 2, 3, 4, 5, 2999, 2000, 2001, 2002, 2003, 2004, 2005, 2006, 2007, 3999, 3000, 3001, 3002, 3003, 3004, 3005, 3006, 3007, 4999, 4000, 4001, 4002, 4003, 4004, 4005, 4006, 4007, 6999, 6000, 6001, 6002, 6003, 6004, 6005, 6006, 6007, 6008, 6009, 6010, 6011, 6012, 6013, 6014, 6015, 6016, 6017, 6018, 6019]), (6, [1, 2, 3, 4, 2999, 2000, 2001, 2002, 2003, 2004, 2005, 2006, 2007, 3999, 3000, 3001, 3002, 3003, 3004, 3005, 3006, 3007, 4999, 4000, 4001, 4002, 4003, 4004, 4005, 4006, 4007]), (7, [2, 3999, 3000, 3001, 3002, 3003, 3004, 3005, 3006, 3007])]⟩
theorem told_ok {w : Wts} (hw : WtsS w) : Impl Try.prog 29 [wtsA none none w] (wtsA (some 0) none (cutW 100 5 w)) := by
  obtain ⟨s1, s2, s3, s4, s5⟩ := hw
  have hf : ∀ {no : Option Bool} {l : List Int}, l.length ≤ 140737488351232 → Impl Try.prog 21 [.sl none no 1 false (ints .i32 l), .i .i64 100] (rowA (some 0) (l.take 100)) := fun {no l} h => few3_ok 100 h (by omega)
  refine impl_of (fn := Try.f29) tbl_ok (by kernel_rfl) (by kernel_rfl) rfl ⟨by simp [Try.f29], by decide⟩ rfl fun W0 => ?_
  repeat' first
    | apply WP.seq
    | (apply WP.region (E := eTold) mixed tbl_ok; conv => whnf)
    | apply WP.block
    | (apply reg_and; (· kernel_rfl); conv => whnf)
    | (apply ex_and; (· with_reducible exact few4_ok s1); conv => whnf)
    | (apply ex_and; (· with_reducible exact hf s4); conv => whnf)
    | (apply ex_and; (· with_reducible exact few4_ok s5); conv => whnf)
    | fail
  refine WP.loopM [4, 5, 24, 4003, 6999, 6000, 6001, 6002, 6003, 6004, 6005, 6006, 6007, 6008, 6009, 6010, 6011, 6012, 6013, 6014, 6015, 6016, 6017, 6018, 6019] (fun i : Nat => [(4, .i .i64 i), (4003, .sl (some 0) none 20 true (gl (blkA none) ((w.blocks.take i).map (cutB 100))))]) (fun i => i ≤ w.blocks.length ∧ i ≤ 5) (fun i => 5 - i) 0 ?_
  conv => whnf
  refine And.intro (And.intro ?_ ?_) (fun i hi => ?_)
  · first | omega | trivial | skip
  · conv => whnf
    repeat' first
      | apply True.intro
      | (apply ptr_and; (· kernel_rfl); conv => whnf)
      | omega
      | (apply Or.inr; rfl)
      | (apply Or.inl; rfl)
      | (apply or_row; (· rfl); (· rfl); rfl)
      | (apply And.intro <;> conv => whnf)
      | fail
  conv => whnf
  obtain ⟨hi1, hi2⟩ := hi
  have hml : ((w.blocks.take i).map (cutB 100)).length = i := by rw [List.length_map, List.length_take]; omega
  repeat' first
    | apply WP.seq
    | (apply WP.region (E := eTold) mixed tbl_ok; conv => whnf)
    | (apply WP.cond; conv => whnf)
    | (apply WP.skip; conv => whnf)
    | (apply WP.ret; conv => whnf)
    | (apply WP.exit; conv => whnf)
    | apply WP.block
    | (apply reg_and; (· kernel_rfl); conv => whnf)
    | (apply ex_and; (· with_reducible exact hf (s2 _ (by assumption)).first); conv => whnf)
    | (apply ex_and; (· with_reducible exact hf (s2 _ (by assumption)).second); conv => whnf)
    | (apply ex_and; (· with_reducible exact few4_ok (s2 _ (by assumption)).q); conv => whnf)
    | (apply ex_and; (· with_reducible exact few4_ok (s2 _ (by assumption)).k); conv => whnf)
    | (apply ex_and; (· with_reducible exact few4_ok (s2 _ (by assumption)).v); conv => whnf)
    | (apply ex_and; (· with_reducible exact few4_ok (s2 _ (by assumption)).o); conv => whnf)
    | (apply ex_and; (· with_reducible exact few4_ok (s2 _ (by assumption)).up); conv => whnf)
    | (apply ex_and; (· with_reducible exact few4_ok (s2 _ (by assumption)).down); conv => whnf)
    | (apply ex_glen; conv => whnf)
    | (apply ex_i64; (· omega); conv => whnf)
    | (apply ex_gl; (· omega); intro a ha ha2; conv => whnf)
    | (apply ex_eq; conv => whnf)
    | ((with_reducible apply gd_t); conv => whnf)
    | ((with_reducible apply gd_f); conv => whnf)
    | (apply gd_br)
    | (apply nd_gl; (· omega); conv => whnf)
    | (apply And.intro; (· first | with_reducible rfl | exact trivial | exact Or.inl ⟨rfl, rfl⟩ | exact Or.inr rfl | decide | omega | (apply Nat.le_of_ble_eq_true; rfl) | (dsimp only; omega) | (simp only [ints_len, gl_len, mp_len, List.length_cons, List.length_nil, List.length_drop, List.length_take]; omega)); conv => whnf)
    | (apply br_f; conv => whnf)
    | (apply br_dec <;> intro hbr <;> (first | rw [decide_eq_true hbr] | rw [decide_eq_false hbr] | skip) <;> conv => whnf)
    | fail
  · rw [Int.toNat_natCast] at ha2
    refine Exists.intro (i + 1) (And.intro (And.intro ⟨by omega, by omega⟩ (by omega)) ?_)
    conv => whnf
    repeat' first
      | apply True.intro
      | (apply ptr_and; (· kernel_rfl); conv => whnf)
      | omega
      | (apply Or.inr; rfl)
      | (apply Or.inl; rfl)
      | (apply or_row; (· rfl); (· rfl); rfl)
      | (apply And.intro <;> conv => whnf)
      | (apply or_row; (· rfl); (· rfl); exact cut_snoc ha2)
      | fail
  all_goals have e : w.blocks.take i = w.blocks.take 5 := take_cap (by omega)
  all_goals rw [e]
  · repeat' first
      | apply True.intro
      | (apply Or.inr; rfl)
      | (apply or_row; (· rfl); (· rfl); rfl)
      | (apply And.intro <;> conv => whnf)
      | rfl
      | fail
  · repeat' first
      | apply True.intro
      | (apply Or.inr; rfl)
      | (apply or_row; (· rfl); (· rfl); rfl)
      | (apply And.intro <;> conv => whnf)
      | rfl
      | fail
end Go.Proofs.Ytjihjjbieeofdaa.T
namespace Go.Proofs.Ytjihjjbieeofdaa.T
set_option linter.unusedSimpArgs false
set_option linter.unusedVariables false
open Go
set_option linter.unusedVariables false
set_option maxHeartbeats 8000000
set_option maxRecDepth 100000
def eOf6 : Env := ⟨tbl, [], [51], [], [(0, [1, 2, 2999, 2000, 2001, 2002, 2003, 2004, 2005, 2006, 2007, 3999, 3000, 3001, 3002, 3003, 3004, 3005, 3006, 3007]), (1, [1, 2, 3, 2999, 2000, 2001, 2002, 2003, 2004, 2005, 2006, 2007, 3999, 3000, 3001, 3002, 3003, 3004, 3005, 3006, 3007, 4999, 4000, 4001, 4002, 4003, 4004, 4005, 4006, 4007]), (2, [2, 3, 17, 18, 19, 3999, 3000, 3001, 3002, 3003, 3004, 3005, 3006, 3007, 4999, 4000, 4001, 4002, 4003, 4004, 4005, 4006, 4007]), (3, [2, 3, 17, 18, 19, 20, 3999, 3000, 3001, 3002, 3003, 3004, 3005, 3006, 3007, 4999, 4000, 4001, 4002, 4003, 4004, 4005, 4006, 4007]), (4, [2, 3, 5, 17, 18, 19, 3999, 3000, 3001, 3002, 3003, 3004, 3005, 3006, 3007, 4999, 4000, 4001, 4002, 4003, 4004, 4005, 4006, 4007, 6999, 6000, 6001, 6002, 6003, 6004, 6005, 6006, 6007, 6008, 6009, 6010, 6011, 6012, 6013, 6014, 6015, 6016, 6017, 6018, 6019]), (5, [2, 3, 17, 18, 19, 3999, 3000, 3001, 3002, 3003, 3004, 3005, 3006, 3007, 4999, 4000, 4001, 4002, 4003, 4004, 4005, 4006, 4007]), (6, [2, 3, 17, 18, 19, 3999, 3000, 3001, 3002, 3003, 3004, 3005, 3006, 3007, 4999, 4000, 4001, 4002, 4003, 4004, 4005, 4006, 4007]), (7, [2, 3999, 3000, 3001, 3002, 3003, 3004, 3005, 3006, 3007])]⟩
theorem of6_ok {w : Wts} (hw : WtsS w) (hb : w.blocks.length ≤ 1000) : Impl Try.prog 32 [wtsA none none w] (wtsA (some 0) none (cutW 5000 w.blocks.length w)) := by
  obtain ⟨s1, s2, s3, s4, s5⟩ := hw
  have hf : ∀ {no : Option Bool} {l : List Int}, l.length ≤ 140737488351232 → Impl Try.prog 21 [.sl none no 1 false (ints .i32 l), .i .i64 5000] (rowA (some 0) (l.take 5000)) := fun {no l} h => few3_ok 5000 h (by omega)
  refine impl_of (fn := Try.f32) tbl_ok (by kernel_rfl) (by kernel_rfl) rfl ⟨by simp [Try.f32], by decide⟩ rfl fun W0 => ?_
  repeat' first
    | apply WP.seq
    | (apply WP.region (E := eOf6) mixed tbl_ok; conv => whnf)
    | apply WP.block
    | (apply reg_and; (· kernel_rfl); conv => whnf)
    | (apply ex_and; (· with_reducible exact few4_ok s1); conv => whnf)
    | (apply ex_and; (· with_reducible exact hf s4); conv => whnf)
    | (apply ex_and; (· with_reducible exact few4_ok s5); conv => whnf)
    | (apply ex_glen; conv => whnf)
    | fail
  refine WP.loopM [5, 19, 20, 4003, 6999, 6000, 6001, 6002, 6003, 6004, 6005, 6006, 6007, 6008, 6009, 6010, 6011, 6012, 6013, 6014, 6015, 6016, 6017, 6018, 6019] (fun i : Nat => [(19, .i .i64 i), (4003, .sl (some 0) none 20 true (gl (blkA none) ((w.blocks.take i).map (cutB 5000))))]) (fun i => i ≤ w.blocks.length) (fun i => w.blocks.length - i) 0 ?_
  conv => whnf
  refine And.intro (And.intro ?_ ?_) (fun i hi => ?_)
  · first | omega | trivial | skip
  · conv => whnf
    repeat' first
      | apply True.intro
      | (apply ptr_and; (· kernel_rfl); conv => whnf)
      | omega
      | (apply Or.inr; rfl)
      | (apply Or.inl; rfl)
      | (apply or_row; (· rfl); (· rfl); rfl)
      | (apply And.intro <;> conv => whnf)
      | fail
  conv => whnf
  have hml : ((w.blocks.take i).map (cutB 5000)).length = i := by rw [List.length_map, List.length_take]; omega
  repeat' first
    | apply WP.seq
    | (apply WP.region (E := eOf6) mixed tbl_ok; conv => whnf)
    | (apply WP.cond; conv => whnf)
    | (apply WP.skip; conv => whnf)
    | (apply WP.ret; conv => whnf)
    | (apply WP.exit; conv => whnf)
    | apply WP.block
    | (apply reg_and; (· kernel_rfl); conv => whnf)
    | (apply ex_and; (· with_reducible exact hf (s2 _ (by assumption)).first); conv => whnf)
    | (apply ex_and; (· with_reducible exact hf (s2 _ (by assumption)).second); conv => whnf)
    | (apply ex_and; (· with_reducible exact few4_ok (s2 _ (by assumption)).q); conv => whnf)
    | (apply ex_and; (· with_reducible exact few4_ok (s2 _ (by assumption)).k); conv => whnf)
    | (apply ex_and; (· with_reducible exact few4_ok (s2 _ (by assumption)).v); conv => whnf)
    | (apply ex_and; (· with_reducible exact few4_ok (s2 _ (by assumption)).o); conv => whnf)
    | (apply ex_and; (· with_reducible exact few4_ok (s2 _ (by assumption)).up); conv => whnf)
    | (apply ex_and; (· with_reducible exact few4_ok (s2 _ (by assumption)).down); conv => whnf)
    | (apply ex_i64; (· omega); conv => whnf)
    | (apply ex_gl; (· omega); intro a ha ha2; conv => whnf)
    | (apply ex_eq; conv => whnf)
    | (apply nd_gl; (· omega); conv => whnf)
    | (apply And.intro; (· first | with_reducible rfl | exact trivial | exact Or.inl ⟨rfl, rfl⟩ | exact Or.inr rfl | decide | omega | (apply Nat.le_of_ble_eq_true; rfl) | (dsimp only; omega) | (simp only [ints_len, gl_len, mp_len, List.length_cons, List.length_nil, List.length_drop, List.length_take]; omega)); conv => whnf)
    | (apply br_dec <;> intro hbr <;> (first | rw [decide_eq_true hbr] | rw [decide_eq_false hbr] | skip) <;> conv => whnf)
    | fail
  · rw [Int.toNat_natCast] at ha2
    refine Exists.intro (i + 1) (And.intro (And.intro ?_ ?_) ?_)
    · first | omega | skip
    · first | omega | skip
    conv => whnf
    repeat' first
      | apply True.intro
      | (apply ptr_and; (· kernel_rfl); conv => whnf)
      | omega
      | (apply Or.inr; rfl)
      | (apply Or.inl; rfl)
      | (apply or_row; (· rfl); (· rfl); rfl)
      | (apply And.intro <;> conv => whnf)
      | (apply or_row; (· rfl); (· rfl); exact cut_snoc ha2)
      | fail
  all_goals have e : w.blocks.take i = w.blocks.take w.blocks.length := take_cap (by omega)
  all_goals rw [e]
  · repeat' first
      | apply True.intro
      | (apply Or.inr; rfl)
      | (apply or_row; (· rfl); (· rfl); rfl)
      | (apply And.intro <;> conv => whnf)
      | rfl
      | fail
end Go.Proofs.Ytjihjjbieeofdaa.T
namespace Go.Proofs.Ytjihjjbieeofdaa.T
set_option linter.unusedSimpArgs false
set_option linter.unusedVariables false
open Go
set_option linter.unusedVariables false
set_option maxHeartbeats 8000000
set_option maxRecDepth 100000
def eRCheck : Env := ⟨tbl, [], [], [], [(0, [2, 3, 3999, 3000, 3001, 3002, 3003, 3004, 4999, 4000, 4001, 4002, 4003, 4004, 4005, 4006, 4007]), (1, [2, 3, 5, 3999, 3000, 3001, 3002, 3003, 3004, 4999, 4000, 4001, 4002, 4003, 4004, 4005, 4006, 4007]), (2, [2, 3, 5, 14, 3999, 3000, 3001, 3002, 3003, 3004, 4999, 4000, 4001, 4002, 4003, 4004, 4005, 4006, 4007]), (3, [4]), (4, [2, 3, 6, 3999, 3000, 3001, 3002, 3003, 3004, 4999, 4000, 4001, 4002, 4003, 4004, 4005, 4006, 4007]), (5, [2, 6, 49, 50, 51, 3999, 3000, 3001, 3002, 3003, 3004]), (6, [2, 6, 49, 50, 51, 52, 3999, 3000, 3001, 3002, 3003, 3004]), (7, [2, 6, 8, 49, 50, 51, 3999, 3000, 3001, 3002, 3003, 3004, 9999, 9000, 9001, 9002, 9003, 9004, 9005, 9006, 9007, 9008, 9009, 9010, 9011, 9012, 9013, 9014, 9015, 9016, 9017, 9018, 9019]), (8, [2, 6, 8, 49, 50, 51, 63, 64, 65, 3999, 3000, 3001, 3002, 3003, 3004, 9999, 9000, 9001, 9002, 9003, 9004, 9005, 9006, 9007, 9008, 9009, 9010, 9011, 9012, 9013, 9014, 9015, 9016, 9017, 9018, 9019]), (9, [2, 6, 8, 49, 50, 51, 63, 64, 65, 66, 3999, 3000, 3001, 3002, 3003, 3004, 9999, 9000, 9001, 9002, 9003, 9004, 9005, 9006, 9007, 9008, 9009, 9010, 9011, 9012, 9013, 9014, 9015, 9016, 9017, 9018, 9019]), (10, [2, 6, 8, 10, 49, 50, 51, 63, 64, 65, 3999, 3000, 3001, 3002, 3003, 3004, 9999, 9000, 9001, 9002, 9003, 9004, 9005, 9006, 9007, 9008, 9009, 9010, 9011, 9012, 9013, 9014, 9015, 9016, 9017, 9018, 9019, 11999, 11000, 11001, 11002]), (11, [2, 6, 8, 49, 50, 51, 63, 64, 65, 3999, 3000, 3001, 3002, 3003, 3004, 9999, 9000, 9001, 9002, 9003, 9004, 9005, 9006, 9007, 9008, 9009, 9010, 9011, 9012, 9013, 9014, 9015, 9016, 9017, 9018, 9019]), (12, [2, 6, 8, 49, 50, 51, 63, 64, 65, 3999, 3000, 3001, 3002, 3003, 3004, 9999, 9000, 9001, 9002, 9003, 9004, 9005, 9006, 9007, 9008, 9009, 9010, 9011, 9012, 9013, 9014, 9015, 9016, 9017, 9018, 9019]), (13, [2, 6, 49, 50, 51, 3999, 3000, 3001, 3002, 3003, 3004]), (14, [2, 6, 49, 50, 51, 3999, 3000, 3001, 3002, 3003, 3004]), (15, [116]), (16, [4]), (17, [4])]⟩
def headOk6 (c : Cfg) (w : Wts) : Prop := matOk w.embed.r w.embed.c w.embed.d c.vocab c.dim ∧ matOk w.out.r w.out.c w.out.d c.vocab c.dim ∧ (w.last.length : Int) = c.dim ∧ (w.blocks.length : Int) = c.layers
instance (c : Cfg) (w : Wts) : Decidable (headOk6 c w) := by unfold headOk6; infer_instance
instance (c : Cfg) (w : Wts) (n : Nat) : Decidable (headOk6 c w ∧ ∀ b ∈ w.blocks.take n, blkOk c b) := instDecidableAnd
theorem rcheck6_ok (c : Cfg) (w : Wts) (hl : w.blocks.length ≤ 1000000) : Impl Try.prog 33 [cfgA c, wtsA none none w] (.i .i64 (chkW c w)) := by
  refine impl_of (fn := Try.f33) tbl_ok (by kernel_rfl) (by kernel_rfl) rfl ⟨by simp [Try.f33], by decide⟩ rfl fun W0 => ?_
  repeat' first
    | (apply WP.cutR 4 [5, 6, 14] [(6, .b (decide (headOk6 c w)))]; (conv => whnf); apply And.intro)
    | apply WP.seq
    | (apply WP.region (E := eRCheck) mixed tbl_ok; conv => whnf)
    | (apply WP.cond; conv => whnf)
    | (apply WP.skip; conv => whnf)
    | (apply WP.ret; conv => whnf)
    | apply WP.block
    | (apply reg_and; (· kernel_rfl); conv => whnf)
    | (apply ptr_and; (· kernel_rfl); conv => whnf)
    | (apply ex_and; (· with_reducible exact rshape_ok c); conv => whnf)
    | (apply ex_and; (· with_reducible exact fits_ok); conv => whnf)
    | (apply ex_ilen; conv => whnf)
    | (apply ex_glen; conv => whnf)
    | (apply ex_eq; conv => whnf)
    | ((with_reducible apply gd_t); conv => whnf)
    | ((with_reducible apply gd_f); conv => whnf)
    | (apply gd_br)
    | (apply And.intro; (· first | with_reducible rfl | exact trivial | exact Or.inl ⟨rfl, rfl⟩ | exact Or.inr rfl | decide | omega | (apply Nat.le_of_ble_eq_true; rfl) | (dsimp only; omega) | (simp only [ints_len, gl_len, mp_len, List.length_cons, List.length_nil, List.length_drop, List.length_take]; omega)); conv => whnf)
    | apply br_not
    | (apply br_yes; (· omega); conv => whnf)
    | (apply br_no; (· omega); conv => whnf)
    | (apply br_dec <;> intro hbr <;> (first | rw [decide_eq_true hbr] | rw [decide_eq_false hbr] | skip) <;> conv => whnf)
    | fail
  · repeat' first
      | apply True.intro
      | omega
      | (apply Or.inr; rfl)
      | (apply or_row; (· rfl); (· rfl); rfl)
      | (apply And.intro <;> conv => whnf)
      | exact decide_eq_decide.2 (by unfold headOk6; simp_all)
      | fail
  · repeat' first
      | apply True.intro
      | omega
      | (apply Or.inr; rfl)
      | (apply or_row; (· rfl); (· rfl); rfl)
      | (apply And.intro <;> conv => whnf)
      | (unfold headOk6; simp_all; done)
      | fail
  · repeat' first
      | apply True.intro
      | omega
      | (apply Or.inr; rfl)
      | (apply or_row; (· rfl); (· rfl); rfl)
      | (apply And.intro <;> conv => whnf)
      | (unfold headOk6; simp_all; done)
      | fail
  · repeat' first
      | apply True.intro
      | omega
      | (apply Or.inr; rfl)
      | (apply or_row; (· rfl); (· rfl); rfl)
      | (apply And.intro <;> conv => whnf)
      | (unfold headOk6; simp_all; done)
      | fail
  · refine WP.loopM [6, 8, 51, 52, 9999, 9000, 9001, 9002, 9003, 9004, 9005, 9006, 9007, 9008, 9009, 9010, 9011, 9012, 9013, 9014, 9015, 9016, 9017, 9018, 9019] (fun i : Nat => [(6, .b (decide (headOk6 c w ∧ ∀ b ∈ w.blocks.take i, blkOk c b))), (51, .i .i64 i)]) (fun i => i ≤ w.blocks.length) (fun i => w.blocks.length - i) 0 ?_
    conv => whnf
    refine And.intro (And.intro ?_ ?_) (fun i hi => ?_)
    · omega
    · conv => whnf
      repeat' first
        | apply True.intro
        | (apply ptr_and; (· kernel_rfl); conv => whnf)
        | omega
        | (apply Or.inr; rfl)
        | (apply or_row; (· rfl); (· rfl); rfl)
        | (apply And.intro <;> conv => whnf)
        | (simp; done)
        | fail
    conv => whnf
    obtain ⟨G, iG, hG, eG⟩ : ∃ (G : Prop) (iG : Decidable G), (G ↔ (headOk6 c w ∧ ∀ b ∈ w.blocks.take i, blkOk c b)) ∧ decide (headOk6 c w ∧ ∀ b ∈ w.blocks.take i, blkOk c b) = decide G := ⟨_, _, Iff.rfl, rfl⟩
    rw [eG]
    by_cases hil : i < w.blocks.length
    · obtain ⟨b, hb⟩ : ∃ b, w.blocks[i]? = some b := ⟨_, List.getElem?_eq_getElem hil⟩
      have hbat : (gl (blkA none) w.blocks)[((i : Nat) : Int).toNat]? = some (blkA none b) := by rw [Int.toNat_natCast]; unfold gl; rw [List.getElem?_map, hb]; rfl
      have hgn : (G ∧ blkOk c b) ↔ (headOk6 c w ∧ ∀ b ∈ w.blocks.take (i + 1), blkOk c b) := by
        rw [hG, List.take_add_one, hb]
        simp [and_assoc, or_imp, forall_and]
      repeat' first
        | (apply WP.cutB 1 [6, 52] [(6, .b (decide (G ∧ blkOk c b)))]; (conv => whnf); apply And.intro)
        | apply WP.seq
        | (apply WP.region (E := eRCheck) mixed tbl_ok; conv => whnf)
        | (apply WP.cond; conv => whnf)
        | (apply WP.skip; conv => whnf)
        | apply WP.block
        | (apply ex_at hbat; conv => whnf)
        | (apply reg_and; (· kernel_rfl); conv => whnf)
        | (apply ex_i64; (· omega); conv => whnf)
        | (apply ex_eq; conv => whnf)
        | (apply nd_gl; (· omega); conv => whnf)
        | (apply And.intro; (· first | with_reducible rfl | exact trivial | exact Or.inl ⟨rfl, rfl⟩ | exact Or.inr rfl | decide | omega | (apply Nat.le_of_ble_eq_true; rfl) | (dsimp only; omega) | (simp only [ints_len, gl_len, mp_len, List.length_cons, List.length_nil, List.length_drop, List.length_take]; omega)); conv => whnf)
        | (apply br_yes; (· omega); conv => whnf)
        | fail
      · refine WP.rounds 5 ?_
        refine WPr.step ?_
        repeat' first
          | (apply WP.cutB 3 [6, 66] [(6, .b (decide (G ∧ matOk b.q.r b.q.c b.q.d c.dim c.dim)))]; (conv => whnf); apply And.intro)
          | apply WP.seq
          | (apply WP.region (E := eRCheck) mixed tbl_ok; conv => whnf)
          | (apply WP.cond; conv => whnf)
          | (apply WP.skip; conv => whnf)
          | apply WP.block
          | (apply ex_at; (· rfl); conv => whnf)
          | (apply reg_and; (· kernel_rfl); conv => whnf)
          | (apply ptr_and; (· kernel_rfl); conv => whnf)
          | (apply ex_and; (· with_reducible exact fits_ok); conv => whnf)
          | (apply ex_i64; (· omega); conv => whnf)
          | (apply ex_eq; conv => whnf)
          | ((with_reducible apply gd_t); conv => whnf)
          | ((with_reducible apply gd_f); conv => whnf)
          | (apply gd_br)
          | (apply And.intro; (· first | with_reducible rfl | exact trivial | exact Or.inl ⟨rfl, rfl⟩ | exact Or.inr rfl | decide | omega | (apply Nat.le_of_ble_eq_true; rfl) | (dsimp only; omega) | (simp only [ints_len, gl_len, mp_len, List.length_cons, List.length_nil, List.length_drop, List.length_take]; omega)); conv => whnf)
          | (apply br_t; conv => whnf)
          | (apply br_dec <;> intro hbr <;> (first | rw [decide_eq_true hbr] | rw [decide_eq_false hbr] | skip) <;> conv => whnf)
          | fail
        · repeat' first
            | apply True.intro
            | omega
            | (apply Or.inr; rfl)
            | (apply or_row; (· rfl); (· rfl); rfl)
            | (apply And.intro <;> conv => whnf)
            | exact decide_eq_decide.2 (by simp_all)
            | fail
        · repeat' first
            | apply True.intro
            | omega
            | (apply Or.inr; rfl)
            | (apply or_row; (· rfl); (· rfl); rfl)
            | (apply And.intro <;> conv => whnf)
            | (refine (decide_eq_false ?_).symm; simp_all)
            | fail
        refine WPr.step ?_
        repeat' first
          | (apply WP.cutB 3 [6, 66] [(6, .b (decide (G ∧ matOk b.q.r b.q.c b.q.d c.dim c.dim ∧ matOk b.k.r b.k.c b.k.d c.dim c.dim)))]; (conv => whnf); apply And.intro)
          | apply WP.seq
          | (apply WP.region (E := eRCheck) mixed tbl_ok; conv => whnf)
          | (apply WP.cond; conv => whnf)
          | (apply WP.skip; conv => whnf)
          | apply WP.block
          | (apply ex_at; (· rfl); conv => whnf)
          | (apply reg_and; (· kernel_rfl); conv => whnf)
          | (apply ptr_and; (· kernel_rfl); conv => whnf)
          | (apply ex_and; (· with_reducible exact fits_ok); conv => whnf)
          | (apply ex_i64; (· omega); conv => whnf)
          | (apply ex_eq; conv => whnf)
          | ((with_reducible apply gd_t); conv => whnf)
          | ((with_reducible apply gd_f); conv => whnf)
          | (apply gd_br)
          | (apply And.intro; (· first | with_reducible rfl | exact trivial | exact Or.inl ⟨rfl, rfl⟩ | exact Or.inr rfl | decide | omega | (apply Nat.le_of_ble_eq_true; rfl) | (dsimp only; omega) | (simp only [ints_len, gl_len, mp_len, List.length_cons, List.length_nil, List.length_drop, List.length_take]; omega)); conv => whnf)
          | (apply br_t; conv => whnf)
          | (apply br_dec <;> intro hbr <;> (first | rw [decide_eq_true hbr] | rw [decide_eq_false hbr] | skip) <;> conv => whnf)
          | fail
        · repeat' first
            | apply True.intro
            | omega
            | (apply Or.inr; rfl)
            | (apply or_row; (· rfl); (· rfl); rfl)
            | (apply And.intro <;> conv => whnf)
            | exact decide_eq_decide.2 (by simp_all)
            | fail
        · repeat' first
            | apply True.intro
            | omega
            | (apply Or.inr; rfl)
            | (apply or_row; (· rfl); (· rfl); rfl)
            | (apply And.intro <;> conv => whnf)
            | (refine (decide_eq_false ?_).symm; simp_all)
            | fail
        refine WPr.step ?_
        repeat' first
          | (apply WP.cutB 3 [6, 66] [(6, .b (decide (G ∧ matOk b.q.r b.q.c b.q.d c.dim c.dim ∧ matOk b.k.r b.k.c b.k.d c.dim c.dim ∧ matOk b.v.r b.v.c b.v.d c.dim c.dim)))]; (conv => whnf); apply And.intro)
          | apply WP.seq
          | (apply WP.region (E := eRCheck) mixed tbl_ok; conv => whnf)
          | (apply WP.cond; conv => whnf)
          | (apply WP.skip; conv => whnf)
          | apply WP.block
          | (apply ex_at; (· rfl); conv => whnf)
          | (apply reg_and; (· kernel_rfl); conv => whnf)
          | (apply ptr_and; (· kernel_rfl); conv => whnf)
          | (apply ex_and; (· with_reducible exact fits_ok); conv => whnf)
          | (apply ex_i64; (· omega); conv => whnf)
          | (apply ex_eq; conv => whnf)
          | ((with_reducible apply gd_t); conv => whnf)
          | ((with_reducible apply gd_f); conv => whnf)
          | (apply gd_br)
          | (apply And.intro; (· first | with_reducible rfl | exact trivial | exact Or.inl ⟨rfl, rfl⟩ | exact Or.inr rfl | decide | omega | (apply Nat.le_of_ble_eq_true; rfl) | (dsimp only; omega) | (simp only [ints_len, gl_len, mp_len, List.length_cons, List.length_nil, List.length_drop, List.length_take]; omega)); conv => whnf)
          | (apply br_t; conv => whnf)
          | (apply br_dec <;> intro hbr <;> (first | rw [decide_eq_true hbr] | rw [decide_eq_false hbr] | skip) <;> conv => whnf)
          | fail
        · repeat' first
            | apply True.intro
            | omega
            | (apply Or.inr; rfl)
            | (apply or_row; (· rfl); (· rfl); rfl)
            | (apply And.intro <;> conv => whnf)
            | exact decide_eq_decide.2 (by simp_all)
            | fail
        · repeat' first
            | apply True.intro
            | omega
            | (apply Or.inr; rfl)
            | (apply or_row; (· rfl); (· rfl); rfl)
            | (apply And.intro <;> conv => whnf)
            | (refine (decide_eq_false ?_).symm; simp_all)
            | fail
        refine WPr.step ?_
        repeat' first
          | (apply WP.cutB 3 [6, 66] [(6, .b (decide (G ∧ matOk b.q.r b.q.c b.q.d c.dim c.dim ∧ matOk b.k.r b.k.c b.k.d c.dim c.dim ∧ matOk b.v.r b.v.c b.v.d c.dim c.dim ∧ matOk b.o.r b.o.c b.o.d c.dim c.dim)))]; (conv => whnf); apply And.intro)
          | apply WP.seq
          | (apply WP.region (E := eRCheck) mixed tbl_ok; conv => whnf)
          | (apply WP.cond; conv => whnf)
          | (apply WP.skip; conv => whnf)
          | apply WP.block
          | (apply ex_at; (· rfl); conv => whnf)
          | (apply reg_and; (· kernel_rfl); conv => whnf)
          | (apply ptr_and; (· kernel_rfl); conv => whnf)
          | (apply ex_and; (· with_reducible exact fits_ok); conv => whnf)
          | (apply ex_i64; (· omega); conv => whnf)
          | (apply ex_eq; conv => whnf)
          | ((with_reducible apply gd_t); conv => whnf)
          | ((with_reducible apply gd_f); conv => whnf)
          | (apply gd_br)
          | (apply And.intro; (· first | with_reducible rfl | exact trivial | exact Or.inl ⟨rfl, rfl⟩ | exact Or.inr rfl | decide | omega | (apply Nat.le_of_ble_eq_true; rfl) | (dsimp only; omega) | (simp only [ints_len, gl_len, mp_len, List.length_cons, List.length_nil, List.length_drop, List.length_take]; omega)); conv => whnf)
          | (apply br_t; conv => whnf)
          | (apply br_dec <;> intro hbr <;> (first | rw [decide_eq_true hbr] | rw [decide_eq_false hbr] | skip) <;> conv => whnf)
          | fail
        · repeat' first
            | apply True.intro
            | omega
            | (apply Or.inr; rfl)
            | (apply or_row; (· rfl); (· rfl); rfl)
            | (apply And.intro <;> conv => whnf)
            | exact decide_eq_decide.2 (by simp_all)
            | fail
        · repeat' first
            | apply True.intro
            | omega
            | (apply Or.inr; rfl)
            | (apply or_row; (· rfl); (· rfl); rfl)
            | (apply And.intro <;> conv => whnf)
            | (refine (decide_eq_false ?_).symm; simp_all)
            | fail
        refine WPr.step ?_
        repeat' first
          | apply WP.seq
          | (apply WP.region (E := eRCheck) mixed tbl_ok; conv => whnf)
          | (apply WP.cond; conv => whnf)
          | (apply WP.exit; conv => whnf)
          | (apply reg_and; (· kernel_rfl); conv => whnf)
          | (apply ptr_and; (· kernel_rfl); conv => whnf)
          | (apply ex_and; (· with_reducible exact fits_ok); conv => whnf)
          | (apply ex_ilen; conv => whnf)
          | (apply ex_eq; conv => whnf)
          | ((with_reducible apply gd_t); conv => whnf)
          | ((with_reducible apply gd_f); conv => whnf)
          | (apply gd_br)
          | (apply And.intro; (· first | with_reducible rfl | exact trivial | exact Or.inl ⟨rfl, rfl⟩ | exact Or.inr rfl | decide | omega | (apply Nat.le_of_ble_eq_true; rfl) | (dsimp only; omega) | (simp only [ints_len, gl_len, mp_len, List.length_cons, List.length_nil, List.length_drop, List.length_take]; omega)); conv => whnf)
          | (apply br_f; conv => whnf)
          | (apply br_yes; (· omega); conv => whnf)
          | (apply br_no; (· omega); conv => whnf)
          | (apply br_dec <;> intro hbr <;> (first | rw [decide_eq_true hbr] | rw [decide_eq_false hbr] | skip) <;> conv => whnf)
          | fail
        · repeat' first
            | apply True.intro
            | omega
            | (apply Or.inr; rfl)
            | (apply or_row; (· rfl); (· rfl); rfl)
            | (apply And.intro <;> conv => whnf)
            | exact decide_eq_decide.2 (by unfold blkOk; simp_all)
            | fail
        · repeat' first
            | apply True.intro
            | omega
            | (apply Or.inr; rfl)
            | (apply or_row; (· rfl); (· rfl); rfl)
            | (apply And.intro <;> conv => whnf)
            | (refine (decide_eq_false ?_).symm; unfold blkOk; simp_all)
            | fail
        · repeat' first
            | apply True.intro
            | omega
            | (apply Or.inr; rfl)
            | (apply or_row; (· rfl); (· rfl); rfl)
            | (apply And.intro <;> conv => whnf)
            | (refine (decide_eq_false ?_).symm; unfold blkOk; simp_all)
            | fail
        · repeat' first
            | apply True.intro
            | omega
            | (apply Or.inr; rfl)
            | (apply or_row; (· rfl); (· rfl); rfl)
            | (apply And.intro <;> conv => whnf)
            | (refine (decide_eq_false ?_).symm; unfold blkOk; simp_all)
            | fail
        · repeat' first
            | apply True.intro
            | omega
            | (apply Or.inr; rfl)
            | (apply or_row; (· rfl); (· rfl); rfl)
            | (apply And.intro <;> conv => whnf)
            | (refine (decide_eq_false ?_).symm; unfold blkOk; simp_all)
            | fail
      · refine Exists.intro (i + 1) (And.intro (And.intro ?_ ?_) ?_)
        · first | omega | skip
        · first | omega | skip
        conv => whnf
        repeat' first
          | apply True.intro
          | (apply ptr_and; (· kernel_rfl); conv => whnf)
          | omega
          | (apply Or.inr; rfl)
          | (apply or_row; (· rfl); (· rfl); rfl)
          | (apply And.intro <;> conv => whnf)
          | exact decide_eq_decide.2 hgn
          | fail
    · have hwi : (headOk6 c w ∧ ∀ b ∈ w.blocks.take i, blkOk c b) ↔ wtsOk c w := by
        rw [List.take_of_length_le (by omega)]; unfold headOk6 wtsOk; simp only [and_assoc]
      repeat' first
        | apply WP.seq
        | (apply WP.region (E := eRCheck) mixed tbl_ok; conv => whnf)
        | (apply WP.cond; conv => whnf)
        | (apply WP.skip; conv => whnf)
        | (apply WP.ret; conv => whnf)
        | (apply WP.exit; conv => whnf)
        | (apply reg_and; (· kernel_rfl); conv => whnf)
        | (apply ex_eq; conv => whnf)
        | (apply And.intro; (· first | with_reducible rfl | exact trivial | exact Or.inl ⟨rfl, rfl⟩ | exact Or.inr rfl | decide | omega | (apply Nat.le_of_ble_eq_true; rfl) | (dsimp only; omega) | (simp only [ints_len, gl_len, mp_len, List.length_cons, List.length_nil, List.length_drop, List.length_take]; omega)); conv => whnf)
        | apply br_not
        | (apply br_no; (· omega); conv => whnf)
        | (apply br_dec <;> intro hbr <;> (first | rw [decide_eq_true hbr] | rw [decide_eq_false hbr] | skip) <;> conv => whnf)
        | fail
      · exact chk_good (by assumption) (hwi.1 (hG.1 (by assumption)))
      · exact chk_bad (by assumption) fun h => absurd (hG.2 (hwi.2 h)) (by assumption)
  · exact chk_shp (by assumption)
end Go.Proofs.Ytjihjjbieeofdaa.T
