/- What functions of the program come to, on trees. No condition but those that the theorems name. -/
import Derived.Test.YtcngjnhdemjomaaPC8
namespace Go.Proofs.Ytcngjnhdemjomaa.T
set_option linter.unusedSimpArgs false
set_option linter.unusedVariables false
open Go
set_option linter.unusedVariables false
set_option maxHeartbeats 8000000
set_option maxRecDepth 100000
def eFullN : Env := ⟨tbl, [], [55, 76, 77, 81, 82], [], [(0, [2, 3, 4, 7, 4999, 4000, 4001, 4002, 4003, 4004, 5999, 5000, 5001, 5002, 5003, 5004, 5005, 5006, 5007, 8999, 8000, 8001]), (1, [2, 3, 4, 7, 9, 4999, 4000, 4001, 4002, 4003, 4004, 5999, 5000, 5001, 5002, 5003, 5004, 5005, 5006, 5007, 8999, 8000, 8001]), (2, [2, 3, 4, 7, 9, 26, 4999, 4000, 4001, 4002, 4003, 4004, 5999, 5000, 5001, 5002, 5003, 5004, 5005, 5006, 5007, 8999, 8000, 8001]), (3, [6, 7, 8, 8999, 8000, 8001]), (4, [2, 3, 4, 7, 10, 4999, 4000, 4001, 4002, 4003, 4004, 5999, 5000, 5001, 5002, 5003, 5004, 5005, 5006, 5007, 8999, 8000, 8001]), (5, [2, 3, 4, 7, 10, 33, 4999, 4000, 4001, 4002, 4003, 4004, 5999, 5000, 5001, 5002, 5003, 5004, 5005, 5006, 5007, 8999, 8000, 8001]), (6, [6, 7, 8, 8999, 8000, 8001]), (7, [2, 3, 4, 7, 11, 4999, 4000, 4001, 4002, 4003, 4004, 5999, 5000, 5001, 5002, 5003, 5004, 5005, 5006, 5007, 8999, 8000, 8001]), (8, [3, 4, 7, 11, 36, 37, 38, 4999, 4000, 4001, 4002, 4003, 4004, 5999, 5000, 5001, 5002, 5003, 5004, 5005, 5006, 5007, 8999, 8000, 8001]), (9, [3, 4, 7, 11, 36, 37, 38, 39, 4999, 4000, 4001, 4002, 4003, 4004, 5999, 5000, 5001, 5002, 5003, 5004, 5005, 5006, 5007, 8999, 8000, 8001]), (10, [3, 4, 7, 11, 12, 13, 36, 37, 38, 4999, 4000, 4001, 4002, 4003, 4004, 5999, 5000, 5001, 5002, 5003, 5004, 5005, 5006, 5007, 8999, 8000, 8001]), (11, [3, 4, 7, 11, 12, 14, 36, 37, 38, 4999, 4000, 4001, 4002, 4003, 4004, 5999, 5000, 5001, 5002, 5003, 5004, 5005, 5006, 5007, 8999, 8000, 8001]), (12, [3, 4, 7, 11, 36, 37, 38, 4999, 4000, 4001, 4002, 4003, 4004, 5999, 5000, 5001, 5002, 5003, 5004, 5005, 5006, 5007, 8999, 8000, 8001]), (13, [3, 4, 7, 11, 36, 37, 38, 4999, 4000, 4001, 4002, 4003, 4004, 5999, 5000, 5001, 5002, 5003, 5004, 5005, 5006, 5007, 8999, 8000, 8001]), (14, [3, 4, 7, 11, 16, 4999, 4000, 4001, 4002, 4003, 4004, 5999, 5000, 5001, 5002, 5003, 5004, 5005, 5006, 5007, 8999, 8000, 8001, 17999, 17000, 17001]), (15, [3, 4, 7, 11, 16, 58, 59, 60, 4999, 4000, 4001, 4002, 4003, 4004, 5999, 5000, 5001, 5002, 5003, 5004, 5005, 5006, 5007, 8999, 8000, 8001, 17999, 17000, 17001]), (16, [3, 4, 7, 11, 16, 58, 59, 60, 61, 4999, 4000, 4001, 4002, 4003, 4004, 5999, 5000, 5001, 5002, 5003, 5004, 5005, 5006, 5007, 8999, 8000, 8001, 17999, 17000, 17001]), (17, [3, 4, 7, 11, 16, 18, 58, 59, 60, 4999, 4000, 4001, 4002, 4003, 4004, 5999, 5000, 5001, 5002, 5003, 5004, 5005, 5006, 5007, 8999, 8000, 8001, 17999, 17000, 17001, 19999, 19000, 19001, 19002, 19003, 19004, 19005, 19006, 19007, 19008, 19009, 19010, 19011, 19012, 19013, 19014, 19015, 19016, 19017, 19018, 19019]), (18, [3, 4, 7, 16, 19, 20, 21, 58, 59, 60, 4999, 4000, 4001, 4002, 4003, 4004, 5999, 5000, 5001, 5002, 5003, 5004, 5005, 5006, 5007, 8999, 8000, 8001, 17999, 17000, 17001]), (19, [3, 4, 7, 11, 16, 20, 21, 58, 59, 60, 4999, 4000, 4001, 4002, 4003, 4004, 5999, 5000, 5001, 5002, 5003, 5004, 5005, 5006, 5007, 8999, 8000, 8001, 17999, 17000, 17001]), (20, [3, 4, 7, 11, 16, 58, 59, 60, 4999, 4000, 4001, 4002, 4003, 4004, 5999, 5000, 5001, 5002, 5003, 5004, 5005, 5006, 5007, 8999, 8000, 8001, 17999, 17000, 17001]), (21, [3, 4, 7, 11, 16, 58, 59, 60, 4999, 4000, 4001, 4002, 4003, 4004, 5999, 5000, 5001, 5002, 5003, 5004, 5005, 5006, 5007, 8999, 8000, 8001, 17999, 17000, 17001]), (22, [6, 7, 8, 8999, 8000, 8001])]⟩
theorem nle_mp3 {s s0 : Nat} {nl nl2 : Option Bool} {n : Nat} {F : Nat → List (List Int)} : NLe (.sl (some s) nl 1 true (gl rowsW (mp n F) ++ [.sl (some s0) nl2 1 true (gl (rowA (some 0)) (F n))])) (rows3W (mp (n + 1) F)) := by
  rw [mp_succ]; exact nle_snoc (nle_row _)
theorem full_okN {nt : Option Bool} {c : Cfg} {V D H L n s : Nat} {w : Wts} {t : List Int} (hwl : w.blocks.length ≤ 4) (hk : chkW c w = 0) (hp : prm c.vocab t = 0) (hc : c.heads = n) (hn : 1 ≤ n ∧ n ≤ 4) (hns : n * s = D) (hD : 0 < D ∧ D ≤ 32) (hH : 0 < H ∧ H ≤ 64) (hg : WtsG V D H L w) (ht : 0 < t.length ∧ t.length ≤ 128) (hV : ∀ x ∈ t, 0 ≤ x ∧ x < V) : Impl Try.prog 17 [cfgA c, wtsA none none w, .sl none nt 1 false (ints .i64 t)] (.tup [rowA (some 0) (sLikes V D w (X D H s w (fun i => sBegin D w (t.getD i 0).toNat i) w.blocks.length (t.length - 1))), .agg [rows3W (mp w.blocks.length fun l => mp t.length (kF D H s w (fun i => sBegin D w (t.getD i 0).toNat i) l)), rows3W (mp w.blocks.length fun l => mp t.length (vF D H s w (fun i => sBegin D w (t.getD i 0).toNat i) l))], .i .i64 0]) := by
  have hck := mcheck_ok c w (by omega)
  have hpt : ∀ {nt : Option Bool}, Impl Try.prog 26 [cfgA c, .sl none nt 1 false (ints .i64 t)] (.i .i64 0) := fun {nt} => by
    have := prompt_ok (nt := nt) c (t := t) (by omega)
    rwa [hp] at this
  rw [hk] at hck
  have hX := fun l hl => X_ok (V := V) (H := H) (L := L) (s := s) (w := w) (m := t.length) (F0 := fun i => sBegin D w (t.getD i 0).toNat i) (fun i _ => ⟨sBegin_len _ _ _ _, sBegin_i32 _ _ _ _⟩) l hl
  refine impl_of (fn := Try.f17) tbl_ok (by kernel_rfl) (by kernel_rfl) rfl ⟨by simp [Try.f17], by decide⟩ rfl fun W0 => ?_
  repeat' first
    | apply WP.seq
    | (apply WP.region (E := eFullN) mixed tbl_ok; conv => whnf)
    | (apply WP.cond; conv => whnf)
    | (apply WP.skip; conv => whnf)
    | apply WP.block
    | (rw [fz_blks]; conv => whnf)
    | (apply reg_and; (· kernel_rfl); conv => whnf)
    | (apply ex_and; (· with_reducible exact hck); conv => whnf)
    | (apply ex_and; (· with_reducible exact hpt); conv => whnf)
    | (apply ex_ilen; conv => whnf)
    | (apply ex_eq; conv => whnf)
    | (apply And.intro; (· first | with_reducible rfl | exact trivial | exact Or.inl ⟨rfl, rfl⟩ | exact Or.inr rfl | decide | omega | (apply Nat.le_of_ble_eq_true; rfl) | (dsimp only; omega) | (simp only [ints_len, gl_len, mp_len, List.length_cons, List.length_nil, List.length_drop, List.length_take]; omega)); conv => whnf)
    | apply br_not
    | (apply br_t; conv => whnf)
    | fail
  refine WP.loopM [11, 12, 13, 14, 15, 38, 39, 43] (fun i : Nat => [(11, .sl (some 0) none 1 true (gl (rowA none) (mp i fun i => sBegin D w (t.getD i 0).toNat i))), (38, .i .i64 i)]) (fun i => i ≤ t.length) (fun i => t.length - i) 0 ?_
  conv => whnf
  refine And.intro (And.intro ?_ ?_) (fun i hi => ?_)
  · first | omega | trivial | skip
  · conv => whnf
    repeat' first
      | apply True.intro
      | (apply ptr_and; (· kernel_rfl); conv => whnf)
      | omega
      | (apply Or.inr; rfl)
      | (apply Or.inl; rfl)
      | (apply or_row; (· rfl); (· rfl); rfl)
      | (apply Or.inr; apply And.intro; (· rfl); rfl)
      | (apply And.intro <;> conv => whnf)
      | fail
  conv => whnf
  have hget : i < t.length → ∃ q : Nat, q = (t.getD i 0).toNat ∧ t.getD ((i : Int).toNat) 0 = (q : Int) ∧ q < V := fun hi => by
    have := hV _ (getD_mem hi 0)
    exact ⟨_, rfl, by rw [Int.toNat_natCast]; omega, by omega⟩
  have hsr := fun j => sRow_i32 (c := D) (i := j) hg.embed.2.2.i32
  repeat' first
    | apply WP.seq
    | (apply WP.region (E := eFullN) mixed tbl_ok; conv => whnf)
    | (apply WP.cond; conv => whnf)
    | (apply WP.skip; conv => whnf)
    | (apply WP.exit; conv => whnf)
    | apply WP.block
    | (apply ex_ints; (· omega); obtain ⟨q, hq1, hq2, hq3⟩ := hget (by omega); rw [hq2]; conv => whnf)
    | (apply reg_and; (· kernel_rfl); conv => whnf)
    | (apply ex_and; (· with_reducible exact row_okM hg.embed (by omega)); conv => whnf)
    | (apply ex_and; (· with_reducible exact place_ok (by rw [sRow_len]; omega) (by omega) (hsr _)); conv => whnf)
    | (apply ex_glen; conv => whnf)
    | (apply ex_i64; (· omega); conv => whnf)
    | (apply ex_eq; conv => whnf)
    | (apply nd_ints; (· omega); conv => whnf)
    | (apply And.intro; (· first | with_reducible rfl | exact trivial | exact Or.inl ⟨rfl, rfl⟩ | exact Or.inr rfl | decide | omega | (apply Nat.le_of_ble_eq_true; rfl) | (dsimp only; omega) | (simp only [ints_len, gl_len, mp_len, List.length_cons, List.length_nil, List.length_drop, List.length_take]; omega)); conv => whnf)
    | (apply br_dec <;> intro hbr <;> (first | rw [decide_eq_true hbr] | rw [decide_eq_false hbr] | skip) <;> conv => whnf)
    | fail
  · have hb0 : sPlace (sRow D w.embed.d q) i = sBegin D w (t.getD i 0).toNat i := by rw [hq1]; rfl
    rw [hb0]
    clear hX
    refine Exists.intro (i + 1) (And.intro (And.intro ?_ ?_) ?_)
    · first | omega | skip
    · first | omega | skip
    conv => whnf
    repeat' first
      | apply True.intro
      | (apply ptr_and; (· kernel_rfl); conv => whnf)
      | omega
      | (apply Or.inr; rfl)
      | (apply Or.inl; rfl)
      | (apply or_row; (· rfl); (· rfl); rfl)
      | (apply or_row; (· rfl); (· rfl); apply gl_mp; subst_vars; rfl)
      | (apply And.intro <;> conv => whnf)
      | fail
  have e : i = t.length := by omega
  subst e
  clear hget hsr hi
  generalize (fun i => sBegin D w (t.getD i 0).toNat i) = F0 at *
  have hkf : (mp t.length F0) = mp t.length (X D H s w F0 0) := rfl
  rw [hkf]
  refine WP.loopM [11, 16, 18, 19, 20, 21, 60, 61, 64, 17000, 17001, 19999, 19000, 19001, 19002, 19003, 19004, 19005, 19006, 19007, 19008, 19009, 19010, 19011, 19012, 19013, 19014, 19015, 19016, 19017, 19018, 19019] (fun l : Nat => [(11, .sl (some 0) none 1 true (gl (rowA none) (mp t.length (X D H s w F0 l)))), (16, .ptr 16 0), (17000, rows3W (mp l fun l => mp t.length (kF D H s w F0 l))), (17001, rows3W (mp l fun l => mp t.length (vF D H s w F0 l))), (60, .i .i64 l)]) (fun l => l ≤ w.blocks.length) (fun l => w.blocks.length - l) 0 ?_
  conv => whnf
  refine And.intro (And.intro ?_ ?_) (fun l hl => ?_)
  · first | omega | trivial | skip
  · conv => whnf
    repeat' first
      | apply True.intro
      | (apply ptr_and; (· kernel_rfl); conv => whnf)
      | omega
      | (apply Or.inr; rfl)
      | (apply Or.inl; rfl)
      | (apply or_row; (· rfl); (· rfl); rfl)
      | (apply And.intro <;> conv => whnf)
      | fail
  conv => whnf
  have hbk : ∀ b, w.blocks[l]? = some b → kF D H s w F0 l = (fun i => sK D b (X D H s w F0 l i)) ∧ vF D H s w F0 l = (fun i => sV D b (X D H s w F0 l i)) ∧ X D H s w F0 (l + 1) = lx D H s b (X D H s w F0 l) := fun b hb => by
    refine ⟨?_, ?_, ?_⟩
    · funext i; unfold kF; rw [hb]
    · funext i; unfold vF; rw [hb]
    · funext i; show (match w.blocks[l]? with | some b => lx D H s b (X D H s w F0 l) i | none => []) = _
      rw [hb]
  have hXl := hX l hl
  have hml : (mp t.length (X D H s w F0 l)).length = t.length := mp_len _ _
  by_cases hlw : l < w.blocks.length
  · obtain ⟨b, hb⟩ : ∃ b, w.blocks[l]? = some b := ⟨_, List.getElem?_eq_getElem hlw⟩
    obtain ⟨e1, e2, e3⟩ := hbk b hb
    have hbat : (gl (blkA none) w.blocks)[((l : Nat) : Int).toNat]? = some (blkA none b) := by rw [Int.toNat_natCast]; unfold gl; rw [List.getElem?_map, hb]; rfl
    have hlay : ∀ {nr : Option Bool}, Impl Try.prog 45 [cfgA c, blkA none b, .sl none nr 1 true (gl (rowA none) (mp t.length (X D H s w F0 l)))] (.tup [.sl (some 0) none 1 true (gl (rowA none) (mp t.length (X D H s w F0 (l + 1)))), rowsW (mp t.length (kF D H s w F0 l)), rowsW (mp t.length (vF D H s w F0 l))]) := fun {nr} => by
      rw [e1, e2, e3]
      exact layer_okN hc hn hns hD (by omega) (hg.blocks b (List.mem_of_getElem? hb)) ht hXl
    clear hX hbk e1 e2 e3
    repeat' first
      | (refine WP.nrm (c := .region 21 _ _) 17000 (rows3W (mp (l + 1) fun l => mp t.length (kF D H s w F0 l))) ?_; (conv => whnf); refine And.intro (And.intro (by exact nle_mp3) True.intro) ?_; (conv => whnf); refine And.intro (by kernel_rfl) (And.intro (by kernel_rfl) ?_))
      | (refine WP.nrm (c := .region 21 _ _) 17001 (rows3W (mp (l + 1) fun l => mp t.length (vF D H s w F0 l))) ?_; (conv => whnf); refine And.intro (And.intro (by exact nle_mp3) True.intro) ?_; (conv => whnf); refine And.intro (by kernel_rfl) (And.intro (by kernel_rfl) ?_))
      | apply WP.seq
      | (apply WP.region (E := eFullN) mixed tbl_ok; conv => whnf)
      | (apply WP.cond; conv => whnf)
      | (apply WP.skip; conv => whnf)
      | apply WP.block
      | (apply ex_at hbat; conv => whnf)
      | (apply reg_and; (· kernel_rfl); conv => whnf)
      | (apply ex_and; (· with_reducible exact hlay); conv => whnf)
      | (apply ex_i64; (· omega); conv => whnf)
      | (apply ex_eq; conv => whnf)
      | (apply nd_gl; (· omega); conv => whnf)
      | (apply And.intro; (· first | with_reducible rfl | exact trivial | exact Or.inl ⟨rfl, rfl⟩ | exact Or.inr rfl | decide | omega | (apply Nat.le_of_ble_eq_true; rfl) | (dsimp only; omega) | (simp only [ints_len, gl_len, mp_len, List.length_cons, List.length_nil, List.length_drop, List.length_take]; omega)); conv => whnf)
      | (apply br_yes; (· omega); conv => whnf)
      | (rw [fz_rows]; conv => whnf)
      | fail
    refine Exists.intro (l + 1) (And.intro (And.intro ?_ ?_) ?_)
    · first | omega | skip
    · first | omega | skip
    conv => whnf
    repeat' first
      | apply True.intro
      | (apply ptr_and; (· kernel_rfl); conv => whnf)
      | omega
      | (apply Or.inr; rfl)
      | (apply or_row; (· rfl); (· rfl); rfl)
      | (apply And.intro <;> conv => whnf)
      | fail
  · have e : l = w.blocks.length := by omega
    subst e
    have hlast : ∀ n : Int, n = t.length - 1 → (gl (rowA none) (mp t.length (X D H s w F0 w.blocks.length)))[n.toNat]? = some (rowA none (X D H s w F0 w.blocks.length (t.length - 1))) := fun n hn => by
      rw [show n.toNat = t.length - 1 by omega]
      unfold gl mp
      rw [List.getElem?_map, List.getElem?_map, List.getElem?_range (by omega)]; rfl
    have hlik : ∀ {nx : Option Bool}, Impl Try.prog 29 [wtsA none none w, .sl none nx 1 false (ints .i32 (X D H s w F0 w.blocks.length (t.length - 1)))] (rowA (some 0) (sLikes V D w (X D H s w F0 w.blocks.length (t.length - 1)))) := fun {nx} => likes_ok (by omega) hg (hXl _ (by omega)).1 (hXl _ (by omega)).2
    clear hX
    repeat' first
      | apply WP.seq
      | (apply WP.region (E := eFullN) mixed tbl_ok; conv => whnf)
      | (apply WP.cond; conv => whnf)
      | (apply WP.ret; conv => whnf)
      | (apply WP.exit; conv => whnf)
      | (apply ex_at (hlast _ (by rw [hml])); conv => whnf)
      | (rw [fz_blks]; conv => whnf)
      | (apply reg_and; (· kernel_rfl); conv => whnf)
      | (apply ex_and; (· with_reducible exact hlik); conv => whnf)
      | (apply ex_glen; conv => whnf)
      | (apply ex_i64; (· omega); conv => whnf)
      | (apply ex_eq; conv => whnf)
      | (apply nd_gl; (· omega); conv => whnf)
      | (apply nodup_and; (· exact of_decide_eq_true (by kernel_rfl)); conv => whnf)
      | (apply And.intro; (· first | with_reducible rfl | exact trivial | exact Or.inl ⟨rfl, rfl⟩ | exact Or.inr rfl | decide | omega | (apply Nat.le_of_ble_eq_true; rfl) | (dsimp only; omega) | (simp only [ints_len, gl_len, mp_len, List.length_cons, List.length_nil, List.length_drop, List.length_take]; omega)); conv => whnf)
      | (apply br_no; (· omega); conv => whnf)
      | fail
    repeat' first
      | apply True.intro
      | exact Int.NonNeg.mk _
      | (apply Or.inr; rfl)
      | (apply or_row; (· rfl); (· rfl); rfl)
      | (apply And.intro <;> conv => whnf)
      | (apply Nat.le_of_ble_eq_true; rfl)
      | fail
/-- The same, in the words of what is kept. -/
theorem full_goodN {nt : Option Bool} {c : Cfg} {V D n H L s : Nat} {w : Wts} {t : List Int} (hc : CfgG c V D n H L s) (hg : WtsG V D H L w) (hp : prm c.vocab t = 0) : Impl Try.prog 17 [cfgA c, wtsA none none w, .sl none nt 1 false (ints .i64 t)] (.tup [rowA (some 0) (sFull V D H s w t), .agg [rows3W (sKeys D H s w t), rows3W (sVals D H s w t)], .i .i64 0]) := by
  obtain ⟨p1, p2, p3⟩ := prm_zero hp
  exact full_okN (by have := hg.layers; have := hc.gl; omega) (chkW_of hc hg) hp hc.gn.1 hc.gn.2 hc.gs hc.gd.2 hc.gh.2 hg ⟨p1, p2⟩ (fun x hx => by have := p3 x hx; have := hc.gv; omega)
end Go.Proofs.Ytcngjnhdemjomaa.T
namespace Go.Proofs.Ytcngjnhdemjomaa.T
set_option linter.unusedSimpArgs false
set_option linter.unusedVariables false
open Go
set_option linter.unusedVariables false
set_option maxHeartbeats 8000000
set_option maxRecDepth 100000
theorem kF_snoc {D H s : Nat} {w : Wts} {t : List Int} {q : Int} (l : Nat) : mp t.length (kF D H s w (fB D w t) l) = mp t.length (kF D H s w (fB D w (t ++ [q])) l) := mp_congr fun i hi => by
  have e : (t ++ [q]).take t.length = t := by simp
  have := X_pre (D := D) (H := H) (s := s) (w := w) (fB_take (D := D) (w := w) (t := t ++ [q]) (n := t.length) (by simp)) l i hi
  rw [e] at this
  unfold kF
  rw [this]
theorem vF_snoc {D H s : Nat} {w : Wts} {t : List Int} {q : Int} (l : Nat) : mp t.length (vF D H s w (fB D w t) l) = mp t.length (vF D H s w (fB D w (t ++ [q])) l) := mp_congr fun i hi => by
  have e : (t ++ [q]).take t.length = t := by simp
  have := X_pre (D := D) (H := H) (s := s) (w := w) (fB_take (D := D) (w := w) (t := t ++ [q]) (n := t.length) (by simp)) l i hi
  rw [e] at this
  unfold vF
  rw [this]
theorem vw_siz {V D L : Nat} {t : List Int} {K W : List (List (List Int))} (h : VwG V D L t K W) (hD : D ≤ 1000 ∧ L ≤ 1000) : Siz3 K ∧ Siz3 W := by
  obtain ⟨h1, h2, h3, h4, h5⟩ := h
  refine ⟨⟨by omega, fun r hr => ⟨by have := (h4 r hr).1; omega, fun x hx => by have := ((h4 r hr).2 x hx).1; omega⟩⟩, ⟨by omega, fun r hr => ⟨by have := (h5 r hr).1; omega, fun x hx => by have := ((h5 r hr).2 x hx).1; omega⟩⟩⟩
def stepK (L m : Nat) (k : Nat → Nat → List Int) (l : Nat) : List (List (List Int)) := mp L fun l' => if l' < l then mp (m + 1) (k l') else mp m (k l')
theorem stepK_len (L m : Nat) (k : Nat → Nat → List Int) (l : Nat) : (stepK L m k l).length = L := mp_len _ _
theorem stepK_0 (L m : Nat) (k : Nat → Nat → List Int) : stepK L m k 0 = mp L fun l => mp m (k l) := mp_congr fun j hj => by rw [if_neg (by omega)]
theorem stepK_L (L m : Nat) (k : Nat → Nat → List Int) : stepK L m k L = mp L fun l => mp (m + 1) (k l) := mp_congr fun j hj => by rw [if_pos hj]
theorem stepK_set {L m : Nat} {k : Nat → Nat → List Int} {l : Nat} (hl : l < L) : (stepK L m k l).set ((l : Nat) : Int).toNat (mp m (k l) ++ [k l m]) = stepK L m k (l + 1) := by
  rw [← mp_succ, Int.toNat_natCast]
  unfold stepK
  refine List.ext_getElem (by rw [List.length_set, mp_len, mp_len]) fun j h1 h2 => ?_
  rw [mp_len] at h2
  rw [List.getElem_set, mp_at, mp_at]
  by_cases e : l = j
  · subst e; rw [if_pos rfl, if_pos (by omega)]
  · rw [if_neg e]
    by_cases h : j < l
    · rw [if_pos h, if_pos (by omega)]
    · rw [if_neg h, if_neg (by omega)]
theorem stepK_at {L m : Nat} {k : Nat → Nat → List Int} {l : Nat} (f : List (List Int) → AV) (hl : l < L) : (gl f (stepK L m k l))[((l : Nat) : Int).toNat]? = some (f (mp m (k l))) := by
  rw [Int.toNat_natCast]; unfold gl stepK mp; rw [List.getElem?_map, List.getElem?_map, List.getElem?_range hl]; simp
def eFeed : Env := ⟨tbl, [], [113, 114, 122, 123], [100, 104, 95, 96, 97], [(0, [3, 4, 5, 6, 8, 5999, 5000, 5001, 5002, 5003, 5004, 6999, 6000, 6001, 6002, 6003, 6004, 6005, 6006, 6007, 7999, 7000, 7001, 7002, 9999, 9000, 9001, 9002]), (1, [3, 4, 5, 6, 8, 11, 5999, 5000, 5001, 5002, 5003, 5004, 6999, 6000, 6001, 6002, 6003, 6004, 6005, 6006, 6007, 7999, 7000, 7001, 7002, 9999, 9000, 9001, 9002]), (2, [3, 4, 5, 6, 8, 11, 23, 5999, 5000, 5001, 5002, 5003, 5004, 6999, 6000, 6001, 6002, 6003, 6004, 6005, 6006, 6007, 7999, 7000, 7001, 7002, 9999, 9000, 9001, 9002]), (3, [8, 9, 10, 9999, 9000, 9001, 9002]), (4, [3, 4, 5, 6, 8, 26, 5999, 5000, 5001, 5002, 5003, 5004, 6999, 6000, 6001, 6002, 6003, 6004, 6005, 6006, 6007, 7999, 7000, 7001, 7002, 9999, 9000, 9001, 9002]), (5, [8, 9, 10, 9999, 9000, 9001, 9002]), (6, [3, 4, 5, 6, 8, 32, 5999, 5000, 5001, 5002, 5003, 5004, 6999, 6000, 6001, 6002, 6003, 6004, 6005, 6006, 6007, 7999, 7000, 7001, 7002, 9999, 9000, 9001, 9002]), (7, [8, 9, 10, 9999, 9000, 9001, 9002]), (8, [3, 4, 5, 6, 8, 38, 5999, 5000, 5001, 5002, 5003, 5004, 6999, 6000, 6001, 6002, 6003, 6004, 6005, 6006, 6007, 7999, 7000, 7001, 7002, 9999, 9000, 9001, 9002]), (9, [8, 9, 10, 9999, 9000, 9001, 9002]), (10, [3, 4, 5, 6, 8, 12, 5999, 5000, 5001, 5002, 5003, 5004, 6999, 6000, 6001, 6002, 6003, 6004, 6005, 6006, 6007, 7999, 7000, 7001, 7002, 9999, 9000, 9001, 9002, 13999, 13000, 13001, 13002]), (11, [3, 4, 5, 6, 8, 12, 53, 5999, 5000, 5001, 5002, 5003, 5004, 6999, 6000, 6001, 6002, 6003, 6004, 6005, 6006, 6007, 7999, 7000, 7001, 7002, 9999, 9000, 9001, 9002, 13999, 13000, 13001, 13002]), (12, [3, 4, 5, 6, 8, 12, 5999, 5000, 5001, 5002, 5003, 5004, 6999, 6000, 6001, 6002, 6003, 6004, 6005, 6006, 6007, 7999, 7000, 7001, 7002, 9999, 9000, 9001, 9002, 13999, 13000, 13001, 13002]), (13, [3, 4, 5, 8, 12, 13, 5999, 5000, 5001, 5002, 5003, 5004, 6999, 6000, 6001, 6002, 6003, 6004, 6005, 6006, 6007, 9999, 9000, 9001, 9002, 13999, 13000, 13001, 13002]), (14, [3, 4, 5, 8, 12, 13, 71, 72, 73, 5999, 5000, 5001, 5002, 5003, 5004, 6999, 6000, 6001, 6002, 6003, 6004, 6005, 6006, 6007, 9999, 9000, 9001, 9002, 13999, 13000, 13001, 13002]), (15, [3, 4, 5, 8, 12, 13, 71, 72, 73, 74, 5999, 5000, 5001, 5002, 5003, 5004, 6999, 6000, 6001, 6002, 6003, 6004, 6005, 6006, 6007, 9999, 9000, 9001, 9002, 13999, 13000, 13001, 13002]), (16, [3, 4, 5, 8, 12, 13, 14, 15, 71, 72, 73, 5999, 5000, 5001, 5002, 5003, 5004, 6999, 6000, 6001, 6002, 6003, 6004, 6005, 6006, 6007, 9999, 9000, 9001, 9002, 13999, 13000, 13001, 13002, 16999, 16000, 16001, 16002, 16003, 16004, 16005, 16006, 16007, 16008, 16009, 16010, 16011, 16012, 16013, 16014, 16015, 16016, 16017, 16018, 16019]), (17, [3, 4, 5, 8, 12, 14, 16, 17, 18, 71, 72, 73, 5999, 5000, 5001, 5002, 5003, 5004, 6999, 6000, 6001, 6002, 6003, 6004, 6005, 6006, 6007, 9999, 9000, 9001, 9002, 13999, 13000, 13001, 13002]), (18, [3, 4, 5, 8, 12, 16, 71, 72, 73, 5999, 5000, 5001, 5002, 5003, 5004, 6999, 6000, 6001, 6002, 6003, 6004, 6005, 6006, 6007, 9999, 9000, 9001, 9002, 13999, 13000, 13001, 13002]), (19, [3, 4, 5, 8, 12, 13, 71, 72, 73, 5999, 5000, 5001, 5002, 5003, 5004, 6999, 6000, 6001, 6002, 6003, 6004, 6005, 6006, 6007, 9999, 9000, 9001, 9002, 13999, 13000, 13001, 13002]), (20, [3, 4, 5, 8, 12, 13, 71, 72, 73, 5999, 5000, 5001, 5002, 5003, 5004, 6999, 6000, 6001, 6002, 6003, 6004, 6005, 6006, 6007, 9999, 9000, 9001, 9002, 13999, 13000, 13001, 13002]), (21, [5, 8, 12, 13, 6999, 6000, 6001, 6002, 6003, 6004, 6005, 6006, 6007, 9999, 9000, 9001, 9002, 13999, 13000, 13001, 13002]), (22, [8, 9, 10, 9999, 9000, 9001, 9002]), (1017, [3, 4, 5, 8, 12, 14, 71, 72, 73, 5000, 5001, 5002, 5003, 5004, 5999, 6000, 6001, 6002, 6003, 6004, 6005, 6006, 6007, 6999, 9000, 9001, 9002, 9999, 13000, 13001, 13002, 13999]), (2017, [])]⟩
theorem feed_ok {n1 n2 n3 : Option Bool} {c : Cfg} {V D n H L s : Nat} {w : Wts} {t : List Int} {q : Nat} (hc : CfgG c V D n H L s) (hg : WtsG V D H L w) (ht : ∀ x ∈ t, 0 ≤ x ∧ x < (V : Int)) (hl : t.length ≤ 127) (hq : q < V) : Impl Try.prog 34 [cfgA c, wtsA none none w, .agg [.sl none n1 1 false (ints .i64 t), .sl none n2 1 true (gl (rowsA none) (vK D H s w t)), .sl none n3 1 true (gl (rowsA none) (vV D H s w t))], .i .i64 q] (.tup [viewW (t ++ [(q : Int)]) (vK D H s w (t ++ [(q : Int)])) (vV D H s w (t ++ [(q : Int)])), rowA (some 0) (sFull V D H s w (t ++ [(q : Int)])), .i .i64 0]) := by
  have hlay := hg.layers
  have hcl := hc.gl
  have hck := mcheck_ok c w (by omega)
  rw [chkW_of hc hg] at hck
  have hvg := vw_good (D := D) (H := H) (s := s) hg ht (by omega)
  have hft := fun {n1 n2 n3 : Option Bool} => fits9_ok (n1 := n1) (n2 := n2) (n3 := n3) hc hvg
  obtain ⟨z1, z2⟩ := vw_siz hvg (by have := hc.gd; omega)
  have hcp := fun {n1 n2 n3 : Option Bool} => copy_ok (n1 := n1) (n2 := n2) (n3 := n3) (t := t) (by omega) z1 z2
  have hV := hc.gv.1
  have hTl : (t ++ [(q : Int)]).length = t.length + 1 := by simp
  have hTq : (t ++ [(q : Int)]).getD t.length 0 = q := by simp [List.getD_eq_getElem?_getD]
  have hk0 : t.length ≠ 0 → vK D H s w t = stepK L t.length (kF D H s w (fB D w (t ++ [(q : Int)]))) 0 := fun h => by
    unfold vK sKeys; rw [if_neg h, hlay, stepK_0]; exact mp_congr fun l hl => kF_snoc l
  have hv0 : t.length ≠ 0 → vV D H s w t = stepK L t.length (vF D H s w (fB D w (t ++ [(q : Int)]))) 0 := fun h => by
    unfold vV sVals; rw [if_neg h, hlay, stepK_0]; exact mp_congr fun l hl => vF_snoc l
  have hkT : vK D H s w (t ++ [(q : Int)]) = stepK L t.length (kF D H s w (fB D w (t ++ [(q : Int)]))) L := by
    unfold vK sKeys; rw [if_neg (by omega), hlay, stepK_L, hTl]
  have hvT : vV D H s w (t ++ [(q : Int)]) = stepK L t.length (vF D H s w (fB D w (t ++ [(q : Int)]))) L := by
    unfold vV sVals; rw [if_neg (by omega), hlay, stepK_L, hTl]
  have hfT : sFull V D H s w (t ++ [(q : Int)]) = sLikes V D w (X D H s w (fB D w (t ++ [(q : Int)])) L t.length) := by
    unfold sFull; rw [hlay, hTl, Nat.add_sub_cancel]
  have hX := X_ok (V := V) (H := H) (L := L) (s := s) (w := w) (m := t.length + 1) (F0 := fB D w (t ++ [(q : Int)])) (fun i _ => ⟨sBegin_len _ _ _ _, sBegin_i32 _ _ _ _⟩)
  have hbeg : Impl Try.prog 27 [wtsA none none w, .i .i64 q, .i .i64 t.length] (rowA (some 0) (X D H s w (fB D w (t ++ [(q : Int)])) 0 t.length)) := by
    show Impl _ _ _ (rowA (some 0) (sBegin D w ((t ++ [(q : Int)]).getD t.length 0).toNat t.length))
    rw [hTq, Int.toNat_natCast]; exact begin_ok hg hq (by omega) (by have := hc.gd; omega)
  rw [hkT, hvT, hfT]
  have hgk : ∀ l i, l < L → i < (t ++ [(q : Int)]).length → _ := fun l i h1 h2 => kF_good (s := s) (t := t ++ [(q : Int)]) hg h1 h2
  have hgv : ∀ l i, l < L → i < (t ++ [(q : Int)]).length → _ := fun l i h1 h2 => vF_good (s := s) (t := t ++ [(q : Int)]) hg h1 h2
  rw [hTl] at hgk hgv
  clear hkT hvT hfT hTl hTq ht hvg z1 z2
  generalize fB D w (t ++ [(q : Int)]) = F at *
  generalize vK D H s w t = K0 at *
  generalize vV D H s w t = V0 at *
  have hs0 : ∀ (k : Nat → Nat → List Int), t.length = 0 → ∀ r ∈ stepK L t.length k 0, r = [] := fun k h r hr => by
    rw [stepK_0, h] at hr
    obtain ⟨l, _, rfl⟩ := List.mem_map.1 hr
    rfl
  have hsl := stepK_len L t.length
  obtain ⟨Kn, hKn⟩ : ∃ Kn, Kn = stepK L t.length (kF D H s w F) := ⟨_, rfl⟩
  obtain ⟨Vn, hVn⟩ : ∃ Vn, Vn = stepK L t.length (vF D H s w F) := ⟨_, rfl⟩
  have hzk := hs0 (kF D H s w F)
  have hzv := hs0 (vF D H s w F)
  have hlk := hsl (kF D H s w F)
  have hlv := hsl (vF D H s w F)
  rw [← hKn] at hk0 hzk hlk
  rw [← hVn] at hv0 hzv hlv
  rw [← hKn, ← hVn]
  have hlk0 := hlk 0
  have hlv0 := hlv 0
  refine impl_of (fn := Try.f34) tbl_ok (by kernel_rfl) (by kernel_rfl) rfl ⟨by simp [Try.f34], by decide⟩ rfl fun W0 => ?_
  repeat' first
    | (refine WP.nrm (c := .region 13 _ _) 13001 (rows3W (Kn 0)) ?_; (conv => whnf); refine And.intro (And.intro (by exact nle_zero (by omega) (hzk (by omega))) True.intro) ?_; (conv => whnf); refine And.intro (by kernel_rfl) (And.intro (by kernel_rfl) ?_))
    | (refine WP.nrm (c := .region 13 _ _) 13001 (rows3W (Kn 0)) ?_; (conv => whnf); refine And.intro (And.intro (by rw [hk0 (by omega)]; exact .refl _) True.intro) ?_; (conv => whnf); refine And.intro (by kernel_rfl) (And.intro (by kernel_rfl) ?_))
    | (refine WP.nrm (c := .region 13 _ _) 13002 (rows3W (Vn 0)) ?_; (conv => whnf); refine And.intro (And.intro (by exact nle_zero (by omega) (hzv (by omega))) True.intro) ?_; (conv => whnf); refine And.intro (by kernel_rfl) (And.intro (by kernel_rfl) ?_))
    | (refine WP.nrm (c := .region 13 _ _) 13002 (rows3W (Vn 0)) ?_; (conv => whnf); refine And.intro (And.intro (by rw [hv0 (by omega)]; exact .refl _) True.intro) ?_; (conv => whnf); refine And.intro (by kernel_rfl) (And.intro (by kernel_rfl) ?_))
    | apply WP.seq
    | (apply WP.region (E := eFeed) mixed tbl_ok; conv => whnf)
    | (apply WP.cond; conv => whnf)
    | (apply WP.skip; conv => whnf)
    | apply WP.block
    | (rw [fz_blks]; conv => whnf)
    | (rw [fz_rows3]; conv => whnf)
    | (apply reg_and; (· kernel_rfl); conv => whnf)
    | (apply ex_and; (· with_reducible exact hck); conv => whnf)
    | (apply ex_and; (· with_reducible exact hft); conv => whnf)
    | (apply ex_and; (· with_reducible exact hcp); conv => whnf)
    | (apply ex_and; (· with_reducible exact hbeg); conv => whnf)
    | (apply ex_ilen; conv => whnf)
    | (apply ex_glen; conv => whnf)
    | (apply ex_eq; conv => whnf)
    | (apply gd_br)
    | (apply And.intro; (· first | with_reducible rfl | exact trivial | exact Or.inl ⟨rfl, rfl⟩ | exact Or.inr rfl | decide | omega | (apply Nat.le_of_ble_eq_true; rfl) | (dsimp only; omega) | (simp only [ints_len, gl_len, mp_len, List.length_cons, List.length_nil, List.length_drop, List.length_take]; omega)); conv => whnf)
    | apply br_not
    | (apply br_t; conv => whnf)
    | (apply br_f; conv => whnf)
    | (apply br_no; (· omega); conv => whnf)
    | (apply br_dec <;> intro hbr <;> (first | rw [decide_eq_true hbr] | rw [decide_eq_false hbr] | skip) <;> conv => whnf)
    | fail
  all_goals
    refine WP.loopM [13, 14, 15, 16, 17, 18, 73, 74, 13001, 13002, 16999, 16000, 16001, 16002, 16003, 16004, 16005, 16006, 16007, 16008, 16009, 16010, 16011, 16012, 16013, 16014, 16015, 16016, 16017, 16018, 16019] (fun l : Nat => [(13, rowA (some 0) (X D H s w F l t.length)), (73, .i .i64 l), (13001, rows3W (Kn l)), (13002, rows3W (Vn l))]) (fun l => l ≤ L) (fun l => L - l) 0 ?_
    conv => whnf
    refine And.intro (And.intro ?_ ?_) (fun l hl => ?_)
    · first | omega | trivial | skip
    · conv => whnf
      repeat' first
        | apply True.intro
        | (apply ptr_and; (· kernel_rfl); conv => whnf)
        | omega
        | (apply Or.inr; rfl)
        | (apply or_row; (· rfl); (· rfl); rfl)
        | (apply And.intro <;> conv => whnf)
        | fail
    conv => whnf
    by_cases hlL : l < L
    · obtain ⟨b, hb⟩ : ∃ b, w.blocks[l]? = some b := ⟨_, List.getElem?_eq_getElem (by omega)⟩
      have hbg : BlkG D H b := hg.blocks b (List.mem_of_getElem? hb)
      have hbat : (gl (blkA none) w.blocks)[((l : Nat) : Int).toNat]? = some (blkA none b) := by rw [Int.toNat_natCast]; unfold gl; rw [List.getElem?_map, hb]; rfl
      have hkb : ∀ i, kF D H s w F l i = sK D b (X D H s w F l i) := fun i => by unfold kF; rw [hb]
      have hvb : ∀ i, vF D H s w F l i = sV D b (X D H s w F l i) := fun i => by unfold vF; rw [hb]
      have hXn : X D H s w F (l + 1) t.length = (sOne D H s b (X D H s w F l t.length) (mp t.length (kF D H s w F l)) (mp t.length (vF D H s w F l))).x := by
        show (match w.blocks[l]? with | some b => lx D H s b (X D H s w F l) t.length | none => []) = _
        rw [hb]
        show lx D H s b (X D H s w F l) t.length = _
        unfold lx
        rw [mp_congr fun i _ => hkb i, mp_congr fun i _ => hvb i]; rfl
      have hx := hX l (by omega) t.length (by omega)
      have hone : ∀ {nx nk nv : Option Bool}, Impl Try.prog 28 [cfgA c, blkA none b, .sl none nx 1 false (ints .i32 (X D H s w F l t.length)), .sl none nk 1 true (gl (rowA none) (mp t.length (kF D H s w F l))), .sl none nv 1 true (gl (rowA none) (mp t.length (vF D H s w F l)))] (.tup [rowA (some 0) (X D H s w F (l + 1) t.length), rowA (some 0) (kF D H s w F l t.length), rowA (some 0) (vF D H s w F l t.length)]) := fun {nx nk nv} => by
        rw [hXn, hkb t.length, hvb t.length]
        refine one_okN hc.gn.1 hc.gn.2 hc.gs hc.gd.2 (by have := hc.gh; omega) hbg hx.1 hx.2 (mp_rowsN fun j hj => hgk l j hlL (by omega)) (mp_rowsN fun j hj => hgv l j hlL (by omega)) ⟨by rw [mp_len, mp_len], by rw [mp_len]; omega⟩
      have hks := stepK_set (m := t.length) (k := kF D H s w F) hlL
      have hvs := stepK_set (m := t.length) (k := vF D H s w F) hlL
      have hKa := stepK_at (m := t.length) (k := kF D H s w F) (rowsA none) hlL
      have hVa := stepK_at (m := t.length) (k := vF D H s w F) (rowsA none) hlL
      have hKo := stepK_at (m := t.length) (k := kF D H s w F) rowsW hlL
      have hVo := stepK_at (m := t.length) (k := vF D H s w F) rowsW hlL
      rw [← hKn] at hks hKa hKo
      rw [← hVn] at hvs hVa hVo
      have hKl1 := hlk l
      have hVl1 := hlv l
      have hKy : ((gl rowsW (Kn l)).set ((l : Nat) : Int).toNat .any)[((l : Nat) : Int).toNat]? = some .any := List.getElem?_set_self (by rw [gl_len]; omega)
      have hVy : ((gl rowsW (Vn l)).set ((l : Nat) : Int).toNat .any)[((l : Nat) : Int).toNat]? = some .any := List.getElem?_set_self (by rw [gl_len]; omega)
      have hln : ((l : Nat) : Int).toNat < L := by omega
      clear hX hXn hkb hvb hgk hgv
      repeat' first
        | (refine WP.nrm (c := .region 19 _ _) 13001 (rows3W (Kn (l + 1))) ?_; (conv => whnf); refine And.intro (And.intro (by rw [← hks]; exact nle_putW (by omega)) True.intro) ?_; (conv => whnf); refine And.intro (by kernel_rfl) (And.intro (by kernel_rfl) ?_))
        | (refine WP.nrm (c := .region 19 _ _) 13002 (rows3W (Vn (l + 1))) ?_; (conv => whnf); refine And.intro (And.intro (by rw [← hvs]; exact nle_putW (by omega)) True.intro) ?_; (conv => whnf); refine And.intro (by kernel_rfl) (And.intro (by kernel_rfl) ?_))
        | (refine WP.regionB (E := eFeed) (id := 17) [(20, 17), (21, 18), (22, 19)] [(16, 78, 0), (17, 78, 1), (18, 78, 2)] mixed tbl_ok ?_ ?_ ?_ ?_; (· kernel_rfl); (· kernel_rfl); (· kernel_rfl); conv => whnf)
        | apply WP.seq
        | (apply WP.region (E := eFeed) mixed tbl_ok; conv => whnf)
        | (apply WP.cond; conv => whnf)
        | (apply WP.skip; conv => whnf)
        | apply WP.block
        | (apply nd_set; (· omega); conv => whnf)
        | (apply ex_at hKa; conv => whnf)
        | (apply ex_at hVa; conv => whnf)
        | (apply ex_at hKo; conv => whnf)
        | (apply ex_at hVo; conv => whnf)
        | (apply ex_at hKy; conv => whnf)
        | (apply ex_at hVy; conv => whnf)
        | (apply ex_at hbat; conv => whnf)
        | (rw [fz_blks]; conv => whnf)
        | (rw [fz_rowsW]; conv => whnf)
        | (rw [fz_rows3]; conv => whnf)
        | (rw [fz_rows]; conv => whnf)
        | (apply reg_and; (· kernel_rfl); conv => whnf)
        | (apply ex_and; (· with_reducible exact hone); conv => whnf)
        | (apply ex_i64; (· omega); conv => whnf)
        | (apply ex_eq; conv => whnf)
        | (apply nd_gl; (· omega); conv => whnf)
        | (apply And.intro; (· first | with_reducible rfl | exact trivial | exact Or.inl ⟨rfl, rfl⟩ | exact Or.inr rfl | decide | omega | (apply Nat.le_of_ble_eq_true; rfl) | (dsimp only; omega) | (simp only [ints_len, gl_len, mp_len, List.length_cons, List.length_nil, List.length_drop, List.length_take]; omega)); conv => whnf)
        | (apply br_yes; (· omega); conv => whnf)
        | fail
      · refine Exists.intro (l + 1) (And.intro (And.intro ?_ ?_) ?_)
        · first | omega | skip
        · first | omega | skip
        conv => whnf
        repeat' first
          | apply True.intro
          | (apply ptr_and; (· kernel_rfl); conv => whnf)
          | omega
          | (apply Or.inr; rfl)
          | (apply or_row; (· rfl); (· rfl); rfl)
          | (apply And.intro <;> conv => whnf)
          | fail
    · have e : l = L := by omega
      subst e
      have hxl := hX l (by omega) t.length (by omega)
      have hlik : ∀ {nx : Option Bool}, Impl Try.prog 29 [wtsA none none w, .sl none nx 1 false (ints .i32 (X D H s w F l t.length))] (rowA (some 0) (sLikes V D w (X D H s w F l t.length))) := fun {nx} => likes_ok (by have := hc.gd; omega) hg hxl.1 hxl.2
      repeat' first
        | apply WP.seq
        | (apply WP.region (E := eFeed) mixed tbl_ok; conv => whnf)
        | (apply WP.cond; conv => whnf)
        | (apply WP.ret; conv => whnf)
        | (apply WP.exit; conv => whnf)
        | (rw [fz_blks]; conv => whnf)
        | (rw [ints_snoc]; conv => whnf)
        | (apply reg_and; (· kernel_rfl); conv => whnf)
        | (apply ex_and; (· with_reducible exact hlik); conv => whnf)
        | (apply ex_eq; conv => whnf)
        | (apply nodup_and; (· exact of_decide_eq_true (by kernel_rfl)); conv => whnf)
        | (apply And.intro; (· first | with_reducible rfl | exact trivial | exact Or.inl ⟨rfl, rfl⟩ | exact Or.inr rfl | decide | omega | (apply Nat.le_of_ble_eq_true; rfl) | (dsimp only; omega) | (simp only [ints_len, gl_len, mp_len, List.length_cons, List.length_nil, List.length_drop, List.length_take]; omega)); conv => whnf)
        | (apply br_no; (· omega); conv => whnf)
        | fail
      repeat' first
        | apply True.intro
        | exact Int.NonNeg.mk _
        | (apply Or.inr; rfl)
        | (apply Or.inl; rfl)
        | (apply or_row; (· rfl); (· rfl); rfl)
        | (apply And.intro <;> conv => whnf)
        | (apply Nat.le_of_ble_eq_true; rfl)
        | fail
end Go.Proofs.Ytcngjnhdemjomaa.T
namespace Go.Proofs.Ytcngjnhdemjomaa.T
set_option linter.unusedSimpArgs false
set_option linter.unusedVariables false
open Go
set_option linter.unusedVariables false
set_option maxHeartbeats 8000000
set_option maxRecDepth 100000
def cutR (m : Nat) (r : List (List Int)) : List (List Int) := (r.take m).map fun x => x.take 40
def cutL (K : List (List (List Int))) : List (List (List Int)) := (K.take 5).map (cutR 130)
theorem map_snoc {α β : Type} {g : β → AV} {f : α → β} {l : List α} {i : Nat} (d : α) (h : i < l.length) : gl g ((l.take i).map f) ++ [g (f (l.getD i d))] = gl g ((l.take (i + 1)).map f) := by
  rw [take_snoc d h, List.map_append]; unfold gl; rw [List.map_append]; rfl
def eRows5 : Env := ⟨tbl, [], [26], [], [(0, [0, 1]), (1, [0, 1, 5]), (2, [0, 1, 5, 6]), (3, [0, 1, 5, 6, 16]), (4, [0, 1, 5, 6]), (5, [0, 1, 5, 6]), (6, [4])]⟩
theorem rows5_ok {nl : Option Bool} {l : List (List Int)} (m : Nat) (hl : l.length ≤ 140737488351232) (hr : ∀ r ∈ l, r.length ≤ 140737488351232) (hm : m ≤ 1000000) : Impl Try.prog 92 [.sl none nl 1 true (gl (rowA none) l), .i .i64 m] (.sl (some 0) none 1 true (gl (rowA none) (cutR m l))) := by
  refine impl_of (fn := Try.f92) tbl_ok (by kernel_rfl) (by kernel_rfl) rfl ⟨by simp [Try.f92], by decide⟩ rfl fun W0 => ?_
  repeat' first
    | apply WP.seq
    | (apply WP.region (E := eRows5) mixed tbl_ok; conv => whnf)
    | apply WP.block
    | (apply reg_and; (· kernel_rfl); conv => whnf)
    | fail
  refine WP.loopM [5, 6, 16] (fun i : Nat => [(5, .sl (some 0) none 1 true (gl (rowA none) (cutR i l))), (6, .i .i64 i)]) (fun i => i ≤ l.length ∧ i ≤ m) (fun i => m - i) 0 ?_
  conv => whnf
  refine And.intro (And.intro ?_ ?_) (fun i hi => ?_)
  · first | omega | trivial | skip
  · conv => whnf
    repeat' first
      | apply True.intro
      | (apply ptr_and; (· kernel_rfl); conv => whnf)
      | omega
      | (apply Or.inr; rfl)
      | (apply Or.inl; rfl)
      | (apply or_row; (· rfl); (· rfl); rfl)
      | (apply And.intro <;> conv => whnf)
      | fail
  conv => whnf
  obtain ⟨hi1, hi2⟩ := hi
  have ha := fun h => gl_at (f := rowA none) (l := l) (i := i) [] h
  have hf : i < l.length → ∀ {no : Option Bool}, Impl Try.prog 41 [.sl none no 1 false (ints .i32 (l.getD i [])), .i .i64 40] (rowA (some 0) ((l.getD i []).take 40)) := fun h {no} => few3_ok 40 (hr _ (getD_in [] h)) (by omega)
  have hsn := fun h => map_snoc (g := rowA none) (f := fun x : List Int => x.take 40) (l := l) (i := i) [] h
  have hml : (cutR i l).length = i := by unfold cutR; rw [List.length_map, List.length_take]; omega
  repeat' first
    | apply WP.seq
    | (apply WP.region (E := eRows5) mixed tbl_ok; conv => whnf)
    | (apply WP.cond; conv => whnf)
    | (apply WP.skip; conv => whnf)
    | (apply WP.ret; conv => whnf)
    | (apply WP.exit; conv => whnf)
    | apply WP.block
    | (apply ex_at (ha (by omega)); conv => whnf)
    | (apply reg_and; (· kernel_rfl); conv => whnf)
    | (apply ex_and; (· with_reducible exact hf (by omega)); conv => whnf)
    | (apply ex_glen; conv => whnf)
    | (apply ex_i64; (· omega); conv => whnf)
    | (apply ex_eq; conv => whnf)
    | ((with_reducible apply gd_t); conv => whnf)
    | ((with_reducible apply gd_f); conv => whnf)
    | (apply gd_br)
    | (apply nd_gl; (· omega); conv => whnf)
    | (apply And.intro; (· first | with_reducible rfl | exact trivial | exact Or.inl ⟨rfl, rfl⟩ | exact Or.inr rfl | decide | omega | (apply Nat.le_of_ble_eq_true; rfl) | (dsimp only; omega) | (simp only [ints_len, gl_len, mp_len, List.length_cons, List.length_nil, List.length_drop, List.length_take]; omega)); conv => whnf)
    | (apply br_f; conv => whnf)
    | (apply br_dec <;> intro hbr <;> (first | rw [decide_eq_true hbr] | rw [decide_eq_false hbr] | skip) <;> conv => whnf)
    | fail
  · refine Exists.intro (i + 1) (And.intro (And.intro ⟨by omega, by omega⟩ (by omega)) ?_)
    conv => whnf
    repeat' first
      | apply True.intro
      | (apply ptr_and; (· kernel_rfl); conv => whnf)
      | omega
      | (apply Or.inr; rfl)
      | (apply Or.inl; rfl)
      | (apply or_row; (· rfl); (· rfl); rfl)
      | (apply And.intro <;> conv => whnf)
      | (apply or_row; (· rfl); (· rfl); exact hsn (by omega))
      | fail
  all_goals have e : cutR i l = cutR m l := by unfold cutR; rw [take_cap (i := i) (n := m) (by omega)]
  all_goals rw [e]
  · repeat' first
      | (apply or_row; (· rfl); (· rfl); rfl)
      | fail
  · repeat' first
      | (apply or_row; (· rfl); (· rfl); rfl)
      | fail
def eLists : Env := ⟨tbl, [], [23], [], [(0, [0]), (1, [0, 3]), (2, [0, 3, 4]), (3, [0, 3, 4, 13]), (4, [0, 3, 4]), (5, [0, 3, 4]), (6, [2])]⟩
/-- Sizes of a view's rows, as memory bounds them. -/
def SizM (K : List (List (List Int))) : Prop := K.length ≤ 140737488351232 ∧ ∀ r ∈ K, r.length ≤ 140737488351232 ∧ ∀ x ∈ r, x.length ≤ 140737488351232
theorem lists_ok {nl : Option Bool} {l : List (List (List Int))} (hl : SizM l) : Impl Try.prog 59 [.sl none nl 1 true (gl (rowsA none) l)] (rows3 (some 0) (cutL l)) := by
  obtain ⟨hl1, hl2⟩ := hl
  refine impl_of (fn := Try.f59) tbl_ok (by kernel_rfl) (by kernel_rfl) rfl ⟨by simp [Try.f59], by decide⟩ rfl fun W0 => ?_
  repeat' first
    | apply WP.seq
    | (apply WP.region (E := eLists) mixed tbl_ok; conv => whnf)
    | apply WP.block
    | (apply reg_and; (· kernel_rfl); conv => whnf)
    | fail
  refine WP.loopM [3, 4, 13] (fun i : Nat => [(3, rows3 (some 0) ((l.take i).map (cutR 130))), (4, .i .i64 i)]) (fun i => i ≤ l.length ∧ i ≤ 5) (fun i => 5 - i) 0 ?_
  conv => whnf
  refine And.intro (And.intro ?_ ?_) (fun i hi => ?_)
  · first | omega | trivial | skip
  · conv => whnf
    repeat' first
      | apply True.intro
      | (apply ptr_and; (· kernel_rfl); conv => whnf)
      | omega
      | (apply Or.inr; rfl)
      | (apply Or.inl; rfl)
      | (apply or_row; (· rfl); (· rfl); rfl)
      | (apply And.intro <;> conv => whnf)
      | fail
  conv => whnf
  obtain ⟨hi1, hi2⟩ := hi
  have ha := fun h => gl_at (f := rowsA none) (l := l) (i := i) [] h
  have hf : i < l.length → ∀ {no : Option Bool}, Impl Try.prog 92 [.sl none no 1 true (gl (rowA none) (l.getD i [])), .i .i64 130] (.sl (some 0) none 1 true (gl (rowA none) (cutR 130 (l.getD i [])))) := fun h {no} => rows5_ok 130 (hl2 _ (getD_in [] h)).1 (hl2 _ (getD_in [] h)).2 (by omega)
  have hsn := fun h => map_snoc (g := rowsA none) (f := cutR 130) (l := l) (i := i) [] h
  have hml : ((l.take i).map (cutR 130)).length = i := by rw [List.length_map, List.length_take]; omega
  repeat' first
    | (rw [fz_rows]; conv => whnf)
    | apply WP.seq
    | (apply WP.region (E := eLists) mixed tbl_ok; conv => whnf)
    | (apply WP.cond; conv => whnf)
    | (apply WP.skip; conv => whnf)
    | (apply WP.ret; conv => whnf)
    | (apply WP.exit; conv => whnf)
    | apply WP.block
    | (apply ex_at (ha (by omega)); conv => whnf)
    | (apply reg_and; (· kernel_rfl); conv => whnf)
    | (apply ex_and; (· with_reducible exact hf (by omega)); conv => whnf)
    | (apply ex_glen; conv => whnf)
    | (apply ex_i64; (· omega); conv => whnf)
    | (apply ex_eq; conv => whnf)
    | ((with_reducible apply gd_t); conv => whnf)
    | ((with_reducible apply gd_f); conv => whnf)
    | (apply gd_br)
    | (apply nd_gl; (· omega); conv => whnf)
    | (apply And.intro; (· first | with_reducible rfl | exact trivial | exact Or.inl ⟨rfl, rfl⟩ | exact Or.inr rfl | decide | omega | (apply Nat.le_of_ble_eq_true; rfl) | (dsimp only; omega) | (simp only [ints_len, gl_len, mp_len, List.length_cons, List.length_nil, List.length_drop, List.length_take]; omega)); conv => whnf)
    | (apply br_f; conv => whnf)
    | (apply br_dec <;> intro hbr <;> (first | rw [decide_eq_true hbr] | rw [decide_eq_false hbr] | skip) <;> conv => whnf)
    | fail
  · refine Exists.intro (i + 1) (And.intro (And.intro ⟨by omega, by omega⟩ (by omega)) ?_)
    conv => whnf
    repeat' first
      | apply True.intro
      | (apply ptr_and; (· kernel_rfl); conv => whnf)
      | omega
      | (apply Or.inr; rfl)
      | (apply Or.inl; rfl)
      | (apply or_row; (· rfl); (· rfl); rfl)
      | (apply And.intro <;> conv => whnf)
      | (apply or_row; (· rfl); (· rfl); exact hsn (by omega))
      | fail
  all_goals have e : (l.take i).map (cutR 130) = cutL l := by unfold cutL; rw [take_cap (i := i) (n := 5) (by omega)]
  all_goals rw [e]
  · repeat' first
      | (apply or_row; (· rfl); (· rfl); rfl)
      | fail
  · repeat' first
      | (apply or_row; (· rfl); (· rfl); rfl)
      | fail
abbrev viewA (o : Option Nat) (t : List Int) (K W : List (List (List Int))) : AV := .agg [.sl o none 1 false (ints .i64 t), rows3 o K, rows3 o W]
def eTold9 : Env := ⟨tbl, [], [], [], [(0, [1, 2, 2999, 2000, 2001, 2002, 3999, 3000, 3001, 3002]), (1, [2, 3999, 3000, 3001, 3002])]⟩
theorem told9_ok {n1 n2 n3 : Option Bool} {t : List Int} {K W : List (List (List Int))} (ht : t.length ≤ 140737488351232) (hK : SizM K) (hW : SizM W) : Impl Try.prog 32 [.agg [.sl none n1 1 false (ints .i64 t), .sl none n2 1 true (gl (rowsA none) K), .sl none n3 1 true (gl (rowsA none) W)]] (viewA (some 0) (t.take 130) (cutL K) (cutL W)) := by
  have hf : ∀ {no : Option Bool}, Impl Try.prog 16 [.sl none no 1 false (ints .i64 t), .i .i64 130] (.sl (some 0) none 1 false (ints .i64 (t.take 130))) := fun {no} => few8_ok 130 ht (by omega)
  generalize t.take 130 = t1 at *
  have h1 := fun {nl : Option Bool} => lists_ok (nl := nl) hK
  have h2 := fun {nl : Option Bool} => lists_ok (nl := nl) hW
  generalize cutL K = K1 at *
  generalize cutL W = W1 at *
  refine impl_of (fn := Try.f32) tbl_ok (by kernel_rfl) (by kernel_rfl) rfl ⟨by simp [Try.f32], by decide⟩ rfl fun W0 => ?_
  repeat' first
    | (rw [fz_rows3]; conv => whnf)
    | apply WP.seq
    | (apply WP.region (E := eTold9) mixed tbl_ok; conv => whnf)
    | (apply WP.ret; conv => whnf)
    | (apply reg_and; (· kernel_rfl); conv => whnf)
    | (apply ex_and; (· with_reducible exact hf); conv => whnf)
    | (apply ex_and; (· with_reducible exact h1); conv => whnf)
    | (apply ex_and; (· with_reducible exact h2); conv => whnf)
    | (apply And.intro; (· first | with_reducible rfl | exact trivial | exact Or.inl ⟨rfl, rfl⟩ | exact Or.inr rfl | decide | omega | (apply Nat.le_of_ble_eq_true; rfl) | (dsimp only; omega) | (simp only [ints_len, gl_len, mp_len, List.length_cons, List.length_nil, List.length_drop, List.length_take]; omega)); conv => whnf)
    | fail
  repeat' first
    | apply True.intro
    | (apply Or.inr; rfl)
    | (apply or_row; (· rfl); (· rfl); rfl)
    | (apply And.intro <;> conv => whnf)
    | fail
def eOf9 : Env := ⟨tbl, [], [], [], [(0, [1, 2, 2999, 2000, 2001, 2002, 3999, 3000, 3001, 3002]), (1, [2, 3999, 3000, 3001, 3002])]⟩
theorem of9_ok {n1 n2 n3 : Option Bool} {t : List Int} {K W : List (List (List Int))} (ht : t.length ≤ 140737488351232) (hK : SizM K) (hW : SizM W) : Impl Try.prog 36 [.agg [.sl none n1 1 false (ints .i64 t), .sl none n2 1 true (gl (rowsA none) K), .sl none n3 1 true (gl (rowsA none) W)]] (viewA (some 0) (t.take 130) (cutL K) (cutL W)) := by
  have hf : ∀ {no : Option Bool}, Impl Try.prog 16 [.sl none no 1 false (ints .i64 t), .i .i64 130] (.sl (some 0) none 1 false (ints .i64 (t.take 130))) := fun {no} => few8_ok 130 ht (by omega)
  generalize t.take 130 = t1 at *
  have h1 := fun {nl : Option Bool} => lists_ok (nl := nl) hK
  have h2 := fun {nl : Option Bool} => lists_ok (nl := nl) hW
  generalize cutL K = K1 at *
  generalize cutL W = W1 at *
  refine impl_of (fn := Try.f36) tbl_ok (by kernel_rfl) (by kernel_rfl) rfl ⟨by simp [Try.f36], by decide⟩ rfl fun W0 => ?_
  repeat' first
    | (rw [fz_rows3]; conv => whnf)
    | apply WP.seq
    | (apply WP.region (E := eOf9) mixed tbl_ok; conv => whnf)
    | (apply WP.ret; conv => whnf)
    | (apply reg_and; (· kernel_rfl); conv => whnf)
    | (apply ex_and; (· with_reducible exact hf); conv => whnf)
    | (apply ex_and; (· with_reducible exact h1); conv => whnf)
    | (apply ex_and; (· with_reducible exact h2); conv => whnf)
    | (apply And.intro; (· first | with_reducible rfl | exact trivial | exact Or.inl ⟨rfl, rfl⟩ | exact Or.inr rfl | decide | omega | (apply Nat.le_of_ble_eq_true; rfl) | (dsimp only; omega) | (simp only [ints_len, gl_len, mp_len, List.length_cons, List.length_nil, List.length_drop, List.length_take]; omega)); conv => whnf)
    | fail
  repeat' first
    | apply True.intro
    | (apply Or.inr; rfl)
    | (apply or_row; (· rfl); (· rfl); rfl)
    | (apply And.intro <;> conv => whnf)
    | fail
end Go.Proofs.Ytcngjnhdemjomaa.T
namespace Go.Proofs.Ytcngjnhdemjomaa.T
set_option linter.unusedSimpArgs false
set_option linter.unusedVariables false
open Go
set_option linter.unusedVariables false
set_option maxHeartbeats 8000000
set_option maxRecDepth 100000
def eAll : Env := ⟨tbl, [36, 12], [], [], [(0, [3, 4, 5, 6, 8, 5999, 5000, 5001, 5002, 5003, 5004, 6999, 6000, 6001, 6002, 6003, 6004, 6005, 6006, 6007, 7999, 7000, 7001, 7002, 9999, 9000, 9001, 9002]), (1, [3, 4, 5, 6, 8, 11, 5999, 5000, 5001, 5002, 5003, 5004, 6999, 6000, 6001, 6002, 6003, 6004, 6005, 6006, 6007, 7999, 7000, 7001, 7002, 9999, 9000, 9001, 9002]), (2, [3, 4, 5, 6, 8, 11, 22, 5999, 5000, 5001, 5002, 5003, 5004, 6999, 6000, 6001, 6002, 6003, 6004, 6005, 6006, 6007, 7999, 7000, 7001, 7002, 9999, 9000, 9001, 9002]), (3, [8, 9, 10, 9999, 9000, 9001, 9002]), (4, [3, 4, 5, 6, 8, 12, 5999, 5000, 5001, 5002, 5003, 5004, 6999, 6000, 6001, 6002, 6003, 6004, 6005, 6006, 6007, 7999, 7000, 7001, 7002, 9999, 9000, 9001, 9002]), (5, [4, 5, 6, 8, 12, 25, 26, 27, 5999, 5000, 5001, 5002, 5003, 5004, 6999, 6000, 6001, 6002, 6003, 6004, 6005, 6006, 6007, 7999, 7000, 7001, 7002, 9999, 9000, 9001, 9002]), (6, [4, 5, 6, 8, 12, 25, 26, 27, 28, 5999, 5000, 5001, 5002, 5003, 5004, 6999, 6000, 6001, 6002, 6003, 6004, 6005, 6006, 6007, 7999, 7000, 7001, 7002, 9999, 9000, 9001, 9002]), (7, [4, 5, 6, 8, 14, 25, 26, 27, 5999, 5000, 5001, 5002, 5003, 5004, 6999, 6000, 6001, 6002, 6003, 6004, 6005, 6006, 6007, 7999, 7000, 7001, 7002, 9999, 9000, 9001, 9002]), (8, [4, 5, 6, 8, 15, 16, 17, 25, 26, 27, 5999, 5000, 5001, 5002, 5003, 5004, 6999, 6000, 6001, 6002, 6003, 6004, 6005, 6006, 6007, 7999, 7000, 7001, 7002, 9999, 9000, 9001, 9002, 16999, 16000, 16001, 16002]), (9, [4, 5, 6, 8, 15, 16, 17, 25, 26, 27, 41, 5999, 5000, 5001, 5002, 5003, 5004, 6999, 6000, 6001, 6002, 6003, 6004, 6005, 6006, 6007, 7999, 7000, 7001, 7002, 9999, 9000, 9001, 9002, 16999, 16000, 16001, 16002]), (10, [8, 9, 10, 9999, 9000, 9001, 9002]), (11, [4, 5, 6, 8, 12, 25, 26, 27, 5999, 5000, 5001, 5002, 5003, 5004, 6999, 6000, 6001, 6002, 6003, 6004, 6005, 6006, 6007, 7999, 7000, 7001, 7002, 9999, 9000, 9001, 9002]), (12, [4, 5, 6, 8, 12, 25, 26, 27, 5999, 5000, 5001, 5002, 5003, 5004, 6999, 6000, 6001, 6002, 6003, 6004, 6005, 6006, 6007, 7999, 7000, 7001, 7002, 9999, 9000, 9001, 9002]), (13, [8, 9, 10, 9999, 9000, 9001, 9002])]⟩
theorem all_ok {nt n1 n2 n3 : Option Bool} {c : Cfg} {V D n H L s : Nat} {w : Wts} {t u : List Int} (hc : CfgG c V D n H L s) (hg : WtsG V D H L w) (ht : ∀ x ∈ t, 0 ≤ x ∧ x < (V : Int)) (hu : prm c.vocab u = 0) (hl : t.length + u.length ≤ 128) : Impl Try.prog 31 [cfgA c, wtsA none none w, .agg [.sl none n1 1 false (ints .i64 t), .sl none n2 1 true (gl (rowsA none) (vK D H s w t)), .sl none n3 1 true (gl (rowsA none) (vV D H s w t))], .sl none nt 1 false (ints .i64 u)] (.tup [viewA none (t ++ u) (vK D H s w (t ++ u)) (vV D H s w (t ++ u)), rowA none (sFull V D H s w (t ++ u)), .i .i64 0]) := by
  obtain ⟨p1, p2, p3⟩ := prm_zero hu
  have hP : ∀ {nt : Option Bool}, Impl Try.prog 26 [cfgA c, .sl none nt 1 false (ints .i64 u)] (.i .i64 0) := fun {nt} => by
    have := prompt_ok (nt := nt) c (t := u) (by omega)
    rwa [hu] at this
  have hV := hc.gv.1
  obtain ⟨Tn, hTn⟩ : ∃ Tn : Nat → List Int, ∀ i, Tn i = t ++ u.take i := ⟨_, fun _ => rfl⟩
  have h0 : Tn 0 = t := by rw [hTn]; simp
  have hend : t ++ u = Tn u.length := by rw [hTn]; simp
  have hTl : ∀ i, i ≤ u.length → (Tn i).length = t.length + i := fun i hi => by rw [hTn, List.length_append, List.length_take]; omega
  have hTv : ∀ i, ∀ x ∈ Tn i, 0 ≤ x ∧ x < (V : Int) := fun i x hx => by
    rw [hTn] at hx
    rcases List.mem_append.1 hx with hx | hx
    · exact ht x hx
    · have := p3 x (List.mem_of_mem_take hx); omega
  have hTs : ∀ i, i < u.length → Tn (i + 1) = Tn i ++ [u.getD i 0] := fun i hi => by rw [hTn, hTn, take_snoc 0 hi, List.append_assoc]
  rw [hend, ← h0]
  clear hTn hend
  refine impl_of (fn := Try.f31) tbl_ok (by kernel_rfl) (by kernel_rfl) rfl ⟨by simp [Try.f31], by decide⟩ rfl fun W0 => ?_
  repeat' first
    | apply WP.seq
    | (apply WP.region (E := eAll) mixed tbl_ok; conv => whnf)
    | (apply WP.cond; conv => whnf)
    | (apply WP.skip; conv => whnf)
    | apply WP.block
    | (apply reg_and; (· kernel_rfl); conv => whnf)
    | (apply ex_and; (· with_reducible exact hP); conv => whnf)
    | (apply ex_ilen; conv => whnf)
    | (apply ex_eq; conv => whnf)
    | (apply And.intro; (· first | with_reducible rfl | exact trivial | exact Or.inl ⟨rfl, rfl⟩ | exact Or.inr rfl | decide | omega | (apply Nat.le_of_ble_eq_true; rfl) | (dsimp only; omega) | (simp only [ints_len, gl_len, mp_len, List.length_cons, List.length_nil, List.length_drop, List.length_take]; omega)); conv => whnf)
    | apply br_not
    | (apply br_t; conv => whnf)
    | fail
  refine WP.loopM [12, 14, 15, 16, 17, 27, 28, 41, 7000, 7001, 7002, 16999, 16000, 16001, 16002] (fun i : Nat => [(27, .i .i64 i), (7000, .sl none none 1 false (ints .i64 (Tn i))), (7001, rows3 none (vK D H s w (Tn i))), (7002, rows3 none (vV D H s w (Tn i))), (12, rowA none (if i = 0 then [] else sFull V D H s w (Tn i)))]) (fun i => i ≤ u.length) (fun i => u.length - i) 0 ?_
  conv => whnf
  refine And.intro (And.intro ?_ ?_) (fun i hi => ?_)
  · first | omega | trivial | skip
  · conv => whnf
    repeat' first
      | apply True.intro
      | (apply ptr_and; (· kernel_rfl); conv => whnf)
      | omega
      | (apply Or.inr; rfl)
      | (apply Or.inl; rfl)
      | (apply or_row; (· rfl); (· rfl); rfl)
      | (apply Or.inr; apply And.intro; (· rfl); rfl)
      | (apply And.intro <;> conv => whnf)
      | fail
  conv => whnf
  by_cases hi2 : i < u.length
  · have hx := p3 _ (getD_in (l := u) 0 hi2)
    obtain ⟨q, hq⟩ : ∃ q : Nat, u.getD i 0 = q := ⟨(u.getD i 0).toNat, by omega⟩
    have hf := fun {n1 n2 n3 : Option Bool} => feed_ok (n1 := n1) (n2 := n2) (n3 := n3) (q := q) hc hg (hTv i) (by rw [hTl i (by omega)]; omega) (by omega)
    have hs := hTs i hi2
    rw [hq] at hs
    rw [← hs] at hf
    clear hs hTs hTv
    repeat' first
      | (rw [fz_blks]; conv => whnf)
      | (rw [fz_rows3]; conv => whnf)
      | (rw [fz_rowsW]; conv => whnf)
      | apply WP.seq
      | (apply WP.region (E := eAll) mixed tbl_ok; conv => whnf)
      | (apply WP.cond; conv => whnf)
      | (apply WP.skip; conv => whnf)
      | apply WP.block
      | (apply ex_ints; (· omega); rw [Int.toNat_natCast, hq]; conv => whnf)
      | (apply reg_and; (· kernel_rfl); conv => whnf)
      | (apply ex_and; (· with_reducible exact hf); conv => whnf)
      | (apply ex_i64; (· omega); conv => whnf)
      | (apply ex_eq; conv => whnf)
      | (apply nd_ints; (· omega); conv => whnf)
      | (apply And.intro; (· first | with_reducible rfl | exact trivial | exact Or.inl ⟨rfl, rfl⟩ | exact Or.inr rfl | decide | omega | (apply Nat.le_of_ble_eq_true; rfl) | (dsimp only; omega) | (simp only [ints_len, gl_len, mp_len, List.length_cons, List.length_nil, List.length_drop, List.length_take]; omega)); conv => whnf)
      | apply br_not
      | (apply br_t; conv => whnf)
      | (apply br_yes; (· omega); conv => whnf)
      | fail
    refine Exists.intro (i + 1) (And.intro (And.intro (by omega) (by omega)) ?_)
    conv => whnf
    rw [if_neg (by omega)]
    repeat' first
      | apply True.intro
      | (apply ptr_and; (· kernel_rfl); conv => whnf)
      | omega
      | (apply Or.inr; rfl)
      | (apply or_row; (· rfl); (· rfl); rfl)
      | (apply And.intro <;> conv => whnf)
      | fail
  have e : i = u.length := by omega
  subst e
  rw [if_neg (by omega)]
  repeat' first
    | apply WP.seq
    | (apply WP.region (E := eAll) mixed tbl_ok; conv => whnf)
    | (apply WP.cond; conv => whnf)
    | (apply WP.ret; conv => whnf)
    | (apply WP.exit; conv => whnf)
    | (apply reg_and; (· kernel_rfl); conv => whnf)
    | (apply ex_eq; conv => whnf)
    | (apply nodup_and; (· exact of_decide_eq_true (by kernel_rfl)); conv => whnf)
    | (apply And.intro; (· first | with_reducible rfl | exact trivial | exact Or.inl ⟨rfl, rfl⟩ | exact Or.inr rfl | decide | omega | (apply Nat.le_of_ble_eq_true; rfl) | (dsimp only; omega) | (simp only [ints_len, gl_len, mp_len, List.length_cons, List.length_nil, List.length_drop, List.length_take]; omega)); conv => whnf)
    | (apply br_no; (· omega); conv => whnf)
    | fail
  repeat' first
    | apply True.intro
    | exact Int.NonNeg.mk _
    | (apply Or.inr; rfl)
    | (apply or_row; (· rfl); (· rfl); rfl)
    | (apply And.intro <;> conv => whnf)
    | (apply Nat.le_of_ble_eq_true; rfl)
    | fail
theorem all_err {nt n1 n2 n3 : Option Bool} {c : Cfg} {w : Wts} {t u : List Int} {K W : List (List (List Int))} (hu : prm c.vocab u ≠ 0) (hl : u.length ≤ 1000000) : Impl Try.prog 31 [cfgA c, wtsA none none w, .agg [.sl none n1 1 false (ints .i64 t), .sl none n2 1 true (gl (rowsA none) K), .sl none n3 1 true (gl (rowsA none) W)], .sl none nt 1 false (ints .i64 u)] (.tup [viewW [] [] [], rowA (some 0) [], .i .i64 (prm c.vocab u)]) := by
  have hP := fun {nt : Option Bool} => prompt_ok (nt := nt) c (t := u) hl
  generalize prm c.vocab u = k at *
  refine impl_of (fn := Try.f31) tbl_ok (by kernel_rfl) (by kernel_rfl) rfl ⟨by simp [Try.f31], by decide⟩ rfl fun W0 => ?_
  repeat' first
    | apply WP.seq
    | (apply WP.region (E := eAll) mixed tbl_ok; conv => whnf)
    | (apply WP.cond; conv => whnf)
    | (apply WP.ret; conv => whnf)
    | (apply reg_and; (· kernel_rfl); conv => whnf)
    | (apply ex_and; (· with_reducible exact hP); conv => whnf)
    | (apply ex_eq; conv => whnf)
    | (apply nodup_and; (· exact of_decide_eq_true (by kernel_rfl)); conv => whnf)
    | (apply And.intro; (· first | with_reducible rfl | exact trivial | exact Or.inl ⟨rfl, rfl⟩ | exact Or.inr rfl | decide | omega | (apply Nat.le_of_ble_eq_true; rfl) | (dsimp only; omega) | (simp only [ints_len, gl_len, mp_len, List.length_cons, List.length_nil, List.length_drop, List.length_take]; omega)); conv => whnf)
    | apply br_not
    | (apply br_no; (· omega); conv => whnf)
    | fail
  repeat' first
    | apply True.intro
    | exact Int.NonNeg.mk _
    | (apply Or.inl; rfl)
    | (apply or_row; (· rfl); (· rfl); rfl)
    | (apply Or.inr; apply And.intro; (· rfl); rfl)
    | (apply And.intro <;> conv => whnf)
    | (apply Nat.le_of_ble_eq_true; rfl)
    | fail
end Go.Proofs.Ytcngjnhdemjomaa.T
namespace Go.Proofs.Ytcngjnhdemjomaa.T
set_option linter.unusedSimpArgs false
set_option linter.unusedVariables false
open Go
set_option linter.unusedVariables false
set_option maxHeartbeats 8000000
set_option maxRecDepth 100000
theorem fz_nil : AV.fzL [] = [] := rfl
/-- The view of nothing. -/
abbrev viewZ : AV := .agg [.sl none (some true) 1 false [], .sl none (some true) 1 true [], .sl none (some true) 1 true []]
def eAwake9 : Env := ⟨tbl, [], [], [], [(0, []), (1, [1, 2999, 2000, 2001, 2002, 2003, 2004]), (2, [1, 2, 3, 2999, 2000, 2001, 2002, 2003, 2004, 3999, 3000, 3001, 3002, 3003, 3004, 3005, 3006, 3007]), (3, [1, 2, 3, 4, 5, 6, 2999, 2000, 2001, 2002, 2003, 2004, 3999, 3000, 3001, 3002, 3003, 3004, 3005, 3006, 3007, 5999, 5000, 5001, 5002]), (4, [1, 2, 3, 4, 5, 6, 7, 9, 2999, 2000, 2001, 2002, 2003, 2004, 3999, 3000, 3001, 3002, 3003, 3004, 3005, 3006, 3007, 5999, 5000, 5001, 5002]), (5, [3, 4, 5, 6, 7, 9, 12, 5999, 5000, 5001, 5002]), (6, [0])]⟩
theorem awake9_ok : Impl Try.prog 30 [] (.b true) := by
  have hm : Impl Try.prog 25 [.agg [.i .i64 2, .i .i64 1, .i .i64 1, .i .i64 1, .i .i64 1], .i .u64 1] (.tup [wtsA (some 0) none (sMake 1 2 1 1 1), .i .i64 0]) := make_ok (seed := 1) (V := 2) (D := 1) (n := 1) (H := 1) (L := 1) (by decide) (by decide) (by decide) (by decide) (by decide)
  have hg : WtsG 2 1 1 1 (sMake 1 2 1 1 1) := make_good (by decide) (by decide) (by decide)
  generalize sMake 1 2 1 1 1 = w at *
  have hlen := hg.layers
  have hf : ∀ {nt : Option Bool}, Impl Try.prog 17 [.agg [.i .i64 2, .i .i64 1, .i .i64 1, .i .i64 1, .i .i64 1], wtsA none none w, .sl none nt 1 false [.i .i64 1]] (.tup [rowA (some 0) (sFull 2 1 1 1 w [1]), .agg [rows3 (some 0) (sKeys 1 1 1 w [1]), rows3 (some 0) (sVals 1 1 1 w [1])], .i .i64 0]) := fun {nt} => full_good (t := [1]) made_cfg hg (by decide)
  have h1 : Impl Try.prog 34 [.agg [.i .i64 2, .i .i64 1, .i .i64 1, .i .i64 1, .i .i64 1], wtsA none none w, viewZ, .i .i64 1] (.tup [viewW [1] (vK 1 1 1 w [1]) (vV 1 1 1 w [1]), rowA (some 0) (sFull 2 1 1 1 w [1]), .i .i64 0]) := feed_ok (t := []) (q := 1) made_cfg hg (by simp) (by decide) (by decide)
  have h2 : Impl Try.prog 34 [.agg [.i .i64 2, .i .i64 1, .i .i64 1, .i .i64 1, .i .i64 1], wtsA none none w, viewZ, .i .i64 2] (.tup [viewW [] [] [], rowA (some 0) [], .i .i64 7]) := feed_bad (t := []) (K := []) (W := []) (q := 2) made_cfg hg (vw_good (D := 1) (H := 1) (s := 1) hg (by simp) (by decide)) (by decide) (by decide)
  have hlk : (sFull 2 1 1 1 w [1]).length = 2 := by unfold sFull sLikes; rw [sApply_len]
  generalize sFull 2 1 1 1 w [1] = fu at *
  generalize sKeys 1 1 1 w [1] = ks at *
  generalize sVals 1 1 1 w [1] = vs at *
  generalize vK 1 1 1 w [1] = k2 at *
  generalize vV 1 1 1 w [1] = v2 at *
  refine impl_of (fn := Try.f30) tbl_ok (by kernel_rfl) (by kernel_rfl) rfl ⟨by simp [Try.f30], by decide⟩ rfl fun W0 => ?_
  repeat' first
    | apply WP.seq
    | (apply WP.region (E := eAwake9) mixed tbl_ok; conv => whnf)
    | (apply WP.ret; conv => whnf)
    | (rw [fz_blks]; conv => whnf)
    | (rw [fz_nil]; conv => whnf)
    | (rw [decide_eq_true (rfl : fu = fu)]; conv => whnf)
    | (apply reg_and; (· kernel_rfl); conv => whnf)
    | (apply ex_and; (· with_reducible exact hm); conv => whnf)
    | (apply ex_and; (· with_reducible exact hf); conv => whnf)
    | (apply ex_and; (· with_reducible exact h1); conv => whnf)
    | (apply ex_and; (· with_reducible exact h2); conv => whnf)
    | (apply ex_and; (· with_reducible exact same3_ok (show fu.length ≤ 1000000000000 by omega)); conv => whnf)
    | (apply ex_ilen; conv => whnf)
    | (apply ex_eq; conv => whnf)
    | ((with_reducible apply gd_t); conv => whnf)
    | (apply gd_br)
    | (apply And.intro; (· first | with_reducible rfl | exact trivial | exact Or.inl ⟨rfl, rfl⟩ | exact Or.inr rfl | decide | omega | (apply Nat.le_of_ble_eq_true; rfl) | (dsimp only; omega) | (simp only [ints_len, gl_len, mp_len, List.length_cons, List.length_nil, List.length_drop, List.length_take]; omega)); conv => whnf)
    | (apply br_t; conv => whnf)
    | (apply br_yes; (· omega); conv => whnf)
    | fail
  exact rfl
end Go.Proofs.Ytcngjnhdemjomaa.T
namespace Go.Proofs.Ytcngjnhdemjomaa.T
set_option linter.unusedSimpArgs false
set_option linter.unusedVariables false
open Go
set_option linter.unusedVariables false
set_option maxHeartbeats 8000000
set_option maxRecDepth 100000
theorem rows3N (o : Option Nat) (K : List (List (List Int))) : rows3 o K = .sl o none 1 true (gl (rowsN none) K) := rfl
def eSame9 : Env := ⟨tbl, [], [], [], [(0, [2, 3, 3999, 3000, 3001, 3002, 4999, 4000, 4001, 4002]), (1, [2, 3, 28, 3999, 3000, 3001, 3002, 4999, 4000, 4001, 4002]), (2, [4]), (3, [2, 3, 31, 32, 3999, 3000, 3001, 3002, 4999, 4000, 4001, 4002]), (4, [2, 3, 31, 32, 33, 3999, 3000, 3001, 3002, 4999, 4000, 4001, 4002]), (5, [2, 3, 5, 31, 32, 3999, 3000, 3001, 3002, 4999, 4000, 4001, 4002]), (6, [2, 3, 31, 32, 45, 3999, 3000, 3001, 3002, 4999, 4000, 4001, 4002]), (7, [4]), (8, [2, 3, 31, 32, 3999, 3000, 3001, 3002, 4999, 4000, 4001, 4002]), (9, [4])]⟩
theorem same9_ok {m1 m2 m3 n1 n2 n3 : Option Bool} {t u : List Int} {K1 W1 K2 W2 : List (List (List Int))} (ht : t.length ≤ 1000000000000) (hK : K1.length ≤ 1000000000000 ∧ ∀ x ∈ K1, x.length ≤ 1000000000000 ∧ ∀ y ∈ x, y.length ≤ 1000000000000) (hW : W1.length ≤ 1000000000000 ∧ ∀ x ∈ W1, x.length ≤ 1000000000000 ∧ ∀ y ∈ x, y.length ≤ 1000000000000) : Impl Try.prog 35 [.agg [.sl none m1 1 false (ints .i64 t), .sl none m2 1 true (gl (rowsA none) K1), .sl none m3 1 true (gl (rowsA none) W1)], .agg [.sl none n1 1 false (ints .i64 u), .sl none n2 1 true (gl (rowsA none) K2), .sl none n3 1 true (gl (rowsA none) W2)]] (.b (decide (t = u ∧ K1 = K2 ∧ W1 = W2))) := by
  have hs1 : ∀ {n1 n2 : Option Bool}, Impl Try.prog 24 [.sl none n1 1 true (gl (rowsA none) K1), .sl none n2 1 true (gl (rowsA none) K2)] (.b (decide (K1 = K2))) := fun {n1 n2} => same8_ok (n3 := none) (n4 := none) hK.1 hK.2
  have hs2 : ∀ {n1 n2 : Option Bool}, Impl Try.prog 24 [.sl none n1 1 true (gl (rowsA none) W1), .sl none n2 1 true (gl (rowsA none) W2)] (.b (decide (W1 = W2))) := fun {n1 n2} => same8_ok (n3 := none) (n4 := none) hW.1 hW.2
  refine impl_of (fn := Try.f35) tbl_ok (by kernel_rfl) (by kernel_rfl) rfl ⟨by simp [Try.f35], by decide⟩ rfl fun W0 => ?_
  repeat' first
    | (rw [fz_rows3]; conv => whnf)
    | apply WP.seq
    | (apply WP.region (E := eSame9) mixed tbl_ok; conv => whnf)
    | (apply WP.cond; conv => whnf)
    | (apply WP.skip; conv => whnf)
    | (apply WP.ret; conv => whnf)
    | apply WP.block
    | (apply reg_and; (· kernel_rfl); conv => whnf)
    | (apply ex_and; (· with_reducible exact hs1); conv => whnf)
    | (apply ex_and; (· with_reducible exact hs2); conv => whnf)
    | (apply ex_ilen; conv => whnf)
    | (apply ex_eq; conv => whnf)
    | ((with_reducible apply gd_t); conv => whnf)
    | ((with_reducible apply gd_nt); conv => whnf)
    | ((with_reducible apply gd_nf); conv => whnf)
    | (apply gd_br)
    | (apply And.intro; (· first | with_reducible rfl | exact trivial | exact Or.inl ⟨rfl, rfl⟩ | exact Or.inr rfl | decide | omega | (apply Nat.le_of_ble_eq_true; rfl) | (dsimp only; omega) | (simp only [ints_len, gl_len, mp_len, List.length_cons, List.length_nil, List.length_drop, List.length_take]; omega)); conv => whnf)
    | apply br_not
    | (apply br_t; conv => whnf)
    | (apply br_yes; (· omega); conv => whnf)
    | (apply br_no; (· omega); conv => whnf)
    | (apply br_dec <;> intro hbr <;> (first | rw [decide_eq_true hbr] | rw [decide_eq_false hbr] | skip) <;> conv => whnf)
    | fail
  · refine WP.loopM [5, 32, 33, 45] (fun i : Nat => [(32, .i .i64 i)]) (fun i => i ≤ t.length ∧ ∀ j, j < i → t.getD j 0 = u.getD j 0) (fun i => t.length - i) 0 ?_
    conv => whnf
    refine And.intro (And.intro ?_ ?_) (fun i hi => ?_)
    · exact ⟨by omega, fun j hj => absurd hj (by omega)⟩
    · conv => whnf
      repeat' first
        | apply True.intro
        | (apply ptr_and; (· kernel_rfl); conv => whnf)
        | omega
        | (apply Or.inr; rfl)
        | (apply or_row; (· rfl); (· rfl); rfl)
        | (apply And.intro <;> conv => whnf)
        | fail
    conv => whnf
    obtain ⟨hi1, hi2⟩ := hi
    repeat' first
      | apply WP.seq
      | (apply WP.region (E := eSame9) mixed tbl_ok; conv => whnf)
      | (apply WP.cond; conv => whnf)
      | (apply WP.skip; conv => whnf)
      | (apply WP.ret; conv => whnf)
      | (apply WP.exit; conv => whnf)
      | apply WP.block
      | (apply reg_and; (· kernel_rfl); conv => whnf)
      | (apply ex_i64; (· omega); conv => whnf)
      | (apply ex_ints; (· omega); conv => whnf)
      | (apply ex_eq; conv => whnf)
      | (apply nd_ints; (· omega); conv => whnf)
      | (apply And.intro; (· first | with_reducible rfl | exact trivial | exact Or.inl ⟨rfl, rfl⟩ | exact Or.inr rfl | decide | omega | (apply Nat.le_of_ble_eq_true; rfl) | (dsimp only; omega) | (simp only [ints_len, gl_len, mp_len, List.length_cons, List.length_nil, List.length_drop, List.length_take]; omega)); conv => whnf)
      | apply br_not
      | (apply br_dec <;> intro hbr <;> (first | rw [decide_eq_true hbr] | rw [decide_eq_false hbr] | skip) <;> conv => whnf)
      | fail
    · refine Exists.intro (i + 1) (And.intro (And.intro ⟨by omega, fun j hj => ?_⟩ (by omega)) ?_)
      · by_cases e : j = i
        · subst e; rw [Int.toNat_natCast] at *; omega
        · exact hi2 j (by omega)
      · conv => whnf
        repeat' first
          | apply True.intro
          | (apply ptr_and; (· kernel_rfl); conv => whnf)
          | omega
          | (apply Or.inr; rfl)
          | (apply or_row; (· rfl); (· rfl); rfl)
          | (apply And.intro <;> conv => whnf)
          | fail
    · refine (decide_eq_false fun e => ?_).symm
      obtain ⟨rfl, _, _⟩ := e
      exact absurd rfl (by assumption)
    · exact (decide_eq_true ⟨list_ext (by omega) fun j hj => hi2 j (by omega), by assumption, by assumption⟩).symm
  all_goals
    refine (decide_eq_false fun e => ?_).symm
    obtain ⟨e1, e2, e3⟩ := e
    first | contradiction | (subst e1; omega)
end Go.Proofs.Ytcngjnhdemjomaa.T
namespace Go.Proofs.Ytcngjnhdemjomaa.T
set_option linter.unusedSimpArgs false
set_option linter.unusedVariables false
open Go
set_option linter.unusedVariables false
set_option maxHeartbeats 8000000
set_option maxRecDepth 100000
def tk (m : Nat) (K : List (List (List Int))) : List (List (List Int)) := K.map fun r => r.take m
def eCut9 : Env := ⟨tbl, [], [35, 39], [], [(0, [0, 1]), (1, [0, 1, 5]), (2, [1, 5, 11, 12, 13]), (3, [1, 5, 11, 12, 13, 14]), (4, [1, 5, 7, 11, 12, 13]), (5, [1, 5, 7, 8, 11, 12, 13]), (6, [1, 5, 7, 8, 9, 11, 12, 13]), (7, [1, 5, 7, 8, 9, 11, 12, 13, 26]), (8, [1, 5, 7, 8, 9, 11, 12, 13]), (9, [1, 5, 7, 8, 9, 11, 12, 13]), (10, [1, 5, 11, 12, 13]), (11, [1, 5, 11, 12, 13]), (12, [4])]⟩
theorem rcut_ok {nl : Option Bool} {K : List (List (List Int))} (n : Int) (hK : Siz3 K) : Impl Try.prog 63 [.sl none nl 1 true (gl (rowsA none) K), .i .i64 n] (rows3 (some 0) (tk n.toNat K)) := by
  obtain ⟨hl1, hl2⟩ := hK
  refine impl_of (fn := Try.f63) tbl_ok (by kernel_rfl) (by kernel_rfl) rfl ⟨by simp [Try.f63], by decide⟩ rfl fun W0 => ?_
  repeat' first
    | apply WP.seq
    | (apply WP.region (E := eCut9) mixed tbl_ok; conv => whnf)
    | apply WP.block
    | (apply reg_and; (· kernel_rfl); conv => whnf)
    | (apply ex_glen; conv => whnf)
    | fail
  refine WP.loopM [5, 7, 8, 9, 13, 14, 26] (fun i : Nat => [(5, rows3 (some 0) (tk n.toNat (K.take i))), (13, .i .i64 i)]) (fun i => i ≤ K.length) (fun i => K.length - i) 0 ?_
  conv => whnf
  refine And.intro (And.intro ?_ ?_) (fun i hi => ?_)
  · first | omega | trivial | skip
  · conv => whnf
    repeat' first
      | apply True.intro
      | (apply ptr_and; (· kernel_rfl); conv => whnf)
      | omega
      | (apply Or.inr; rfl)
      | (apply Or.inl; rfl)
      | (apply or_row; (· rfl); (· rfl); rfl)
      | (apply And.intro <;> conv => whnf)
      | fail
  conv => whnf
  have ha := fun h => gl_at (f := rowsA none) (l := K) (i := i) [] h
  have hx2 := fun h => (hl2 _ (getD_in (l := K) (i := i) [] h))
  have hsn : i < K.length → gl (rowsA none) (tk n.toNat (K.take i)) ++ [rowsA none ((K.getD i []).take n.toNat)] = gl (rowsA none) (tk n.toNat (K.take (i + 1))) := fun h => map_snoc (g := rowsA none) (f := fun r : List (List Int) => r.take n.toNat) (l := K) (i := i) [] h
  have hml : (tk n.toNat (K.take i)).length = i := by unfold tk; rw [List.length_map, List.length_take]; omega
  obtain ⟨x, hx⟩ : ∃ x, x = K.getD i [] := ⟨_, rfl⟩
  rw [← hx] at ha hx2 hsn
  by_cases hi2 : i < K.length
  · have hsn2 := hsn hi2
    generalize tk n.toNat (K.take i) = KI at *
    repeat' first
      | (rw [fz_rows]; conv => whnf)
      | apply WP.seq
      | (apply WP.region (E := eCut9) mixed tbl_ok; conv => whnf)
      | (apply WP.cond; conv => whnf)
      | (apply WP.skip; conv => whnf)
      | apply WP.block
      | (apply ex_at (ha (by omega)); conv => whnf)
      | (apply reg_and; (· kernel_rfl); conv => whnf)
      | (apply ex_eq; conv => whnf)
      | (apply nd_gl; (· omega); conv => whnf)
      | (apply And.intro; (· first | with_reducible rfl | exact trivial | exact Or.inl ⟨rfl, rfl⟩ | exact Or.inr rfl | decide | omega | (apply Nat.le_of_ble_eq_true; rfl) | (dsimp only; omega) | (simp only [ints_len, gl_len, mp_len, List.length_cons, List.length_nil, List.length_drop, List.length_take]; omega)); conv => whnf)
      | (apply br_yes; (· omega); conv => whnf)
      | fail
    refine WP.loopM [8, 9, 26] (fun j : Nat => [(8, .sl (some 0) none 1 true (gl (rowA none) (x.take j))), (9, .i .i64 j)]) (fun j => j ≤ x.length ∧ j ≤ n.toNat) (fun j => x.length - j) 0 ?_
    conv => whnf
    refine And.intro (And.intro ?_ ?_) (fun j hj => ?_)
    · first | omega | trivial | skip
    · conv => whnf
      repeat' first
        | apply True.intro
        | (apply ptr_and; (· kernel_rfl); conv => whnf)
        | omega
        | (apply Or.inr; rfl)
        | (apply Or.inl; rfl)
        | (apply or_row; (· rfl); (· rfl); rfl)
        | (apply And.intro <;> conv => whnf)
        | fail
    conv => whnf
    obtain ⟨hj1, hj2⟩ := hj
    have hu := fun h => gl_at (f := rowA none) (l := x) (i := j) [] h
    have hts : j < x.length → gl (rowA none) (x.take j) ++ [rowA none (x.getD j [])] = gl (rowA none) (x.take (j + 1)) := fun h => by
      rw [take_snoc [] h]; simp [gl]
    have hxl : (x.take j).length = j := by rw [List.length_take]; omega
    repeat' first
      | (rw [fz_rows]; conv => whnf)
      | apply WP.seq
      | (apply WP.region (E := eCut9) mixed tbl_ok; conv => whnf)
      | (apply WP.cond; conv => whnf)
      | (apply WP.skip; conv => whnf)
      | (apply WP.exit; conv => whnf)
      | apply WP.block
      | (apply ex_at (hu (by omega)); conv => whnf)
      | (apply reg_and; (· kernel_rfl); conv => whnf)
      | (apply ex_glen; conv => whnf)
      | (apply ex_i64; (· omega); conv => whnf)
      | (apply ex_eq; conv => whnf)
      | ((with_reducible apply gd_t); conv => whnf)
      | ((with_reducible apply gd_f); conv => whnf)
      | (apply gd_br)
      | (apply nd_gl; (· omega); conv => whnf)
      | (apply And.intro; (· first | with_reducible rfl | exact trivial | exact Or.inl ⟨rfl, rfl⟩ | exact Or.inr rfl | decide | omega | (apply Nat.le_of_ble_eq_true; rfl) | (dsimp only; omega) | (simp only [ints_len, gl_len, mp_len, List.length_cons, List.length_nil, List.length_drop, List.length_take]; omega)); conv => whnf)
      | (apply br_f; conv => whnf)
      | (apply br_dec <;> intro hbr <;> (first | rw [decide_eq_true hbr] | rw [decide_eq_false hbr] | skip) <;> conv => whnf)
      | fail
    · refine Exists.intro (j + 1) (And.intro (And.intro ⟨by omega, by omega⟩ (by omega)) ?_)
      conv => whnf
      repeat' first
        | apply True.intro
        | (apply ptr_and; (· kernel_rfl); conv => whnf)
        | omega
        | (apply Or.inr; rfl)
        | (apply Or.inl; rfl)
        | (apply or_row; (· rfl); (· rfl); rfl)
        | (apply And.intro <;> conv => whnf)
        | (apply or_row; (· rfl); (· rfl); exact hts (by omega))
        | fail
    all_goals
      rw [take_cap (l := x) (i := j) (n := n.toNat) (by omega)]
      refine Exists.intro (i + 1) (And.intro (And.intro (by omega) (by omega)) ?_)
      conv => whnf
      repeat' first
        | apply True.intro
        | (apply ptr_and; (· kernel_rfl); conv => whnf)
        | omega
        | (apply Or.inr; rfl)
        | (apply Or.inl; rfl)
        | (apply or_row; (· rfl); (· rfl); rfl)
        | (apply And.intro <;> conv => whnf)
        | (apply or_row; (· rfl); (· rfl); exact hsn2)
        | fail
  · repeat' first
      | apply WP.seq
      | (apply WP.region (E := eCut9) mixed tbl_ok; conv => whnf)
      | (apply WP.cond; conv => whnf)
      | (apply WP.ret; conv => whnf)
      | (apply WP.exit; conv => whnf)
      | (apply reg_and; (· kernel_rfl); conv => whnf)
      | (apply ex_eq; conv => whnf)
      | (apply And.intro; (· first | with_reducible rfl | exact trivial | exact Or.inl ⟨rfl, rfl⟩ | exact Or.inr rfl | decide | omega | (apply Nat.le_of_ble_eq_true; rfl) | (dsimp only; omega) | (simp only [ints_len, gl_len, mp_len, List.length_cons, List.length_nil, List.length_drop, List.length_take]; omega)); conv => whnf)
      | (apply br_no; (· omega); conv => whnf)
      | fail
    rw [List.take_of_length_le (by omega)]
    exact .inl ⟨rfl, rfl, rfl⟩
end Go.Proofs.Ytcngjnhdemjomaa.T
namespace Go.Proofs.Ytcngjnhdemjomaa.T
set_option linter.unusedSimpArgs false
set_option linter.unusedVariables false
open Go
set_option linter.unusedVariables false
set_option maxHeartbeats 8000000
set_option maxRecDepth 100000
def eRCut : Env := ⟨tbl, [], [], [], [(0, [1, 2, 4, 3999, 3000, 3001, 3002, 5999, 5000, 5001, 5002]), (1, [1, 2, 4, 9, 3999, 3000, 3001, 3002, 5999, 5000, 5001, 5002]), (2, [1, 2, 4, 3999, 3000, 3001, 3002, 5999, 5000, 5001, 5002]), (3, [1, 2, 4, 14, 3999, 3000, 3001, 3002, 5999, 5000, 5001, 5002]), (4, [4, 5999, 5000, 5001, 5002]), (5, [4, 5999, 5000, 5001, 5002])]⟩
theorem rcutv_nil {n1 n2 n3 : Option Bool} {t : List Int} {K W : List (List (List Int))} (n : Int) (ht : t.length ≤ 1000000) (h : n < 1 ∨ t.length = 0) : Impl Try.prog 38 [.agg [.sl none n1 1 false (ints .i64 t), .sl none n2 1 true (gl (rowsA none) K), .sl none n3 1 true (gl (rowsA none) W)], .i .i64 n] (viewA (some 0) [] [] []) := by
  refine impl_of (fn := Try.f38) tbl_ok (by kernel_rfl) (by kernel_rfl) rfl ⟨by simp [Try.f38], by decide⟩ rfl fun W0 => ?_
  repeat' first
    | apply WP.seq
    | (apply WP.region (E := eRCut) mixed tbl_ok; conv => whnf)
    | (apply WP.cond; conv => whnf)
    | (apply WP.skip; conv => whnf)
    | (apply WP.ret; conv => whnf)
    | (apply reg_and; (· kernel_rfl); conv => whnf)
    | (apply ex_ilen; conv => whnf)
    | (apply ex_eq; conv => whnf)
    | (apply And.intro; (· first | with_reducible rfl | exact trivial | exact Or.inl ⟨rfl, rfl⟩ | exact Or.inr rfl | decide | omega | (apply Nat.le_of_ble_eq_true; rfl) | (dsimp only; omega) | (simp only [ints_len, gl_len, mp_len, List.length_cons, List.length_nil, List.length_drop, List.length_take]; omega)); conv => whnf)
    | (apply br_yes; (· omega); conv => whnf)
    | (apply br_dec <;> intro hbr <;> (first | rw [decide_eq_true hbr] | rw [decide_eq_false hbr] | skip) <;> conv => whnf)
    | fail
  all_goals
    repeat' first
      | apply True.intro
      | (apply Or.inl; rfl)
      | (apply or_row; (· rfl); (· rfl); rfl)
      | (apply And.intro <;> conv => whnf)
      | fail
theorem rcutv_ok {n1 n2 n3 : Option Bool} {t : List Int} {K W : List (List (List Int))} (n : Int) (m : Nat) (ht : t.length ≤ 1000000) (hK : Siz3 K) (hW : Siz3 W) (h1 : 1 ≤ n) (h2 : 1 ≤ t.length) (hm : m = min n.toNat t.length) : Impl Try.prog 38 [.agg [.sl none n1 1 false (ints .i64 t), .sl none n2 1 true (gl (rowsA none) K), .sl none n3 1 true (gl (rowsA none) W)], .i .i64 n] (.agg [.sl none none 1 false (ints .i64 (t.take m)), rows3 (some 0) (tk m K), rows3 (some 0) (tk m W)]) := by
  have hk := fun {nl : Option Bool} => rcut_ok (nl := nl) (K := K) (m : Int) hK
  have hw := fun {nl : Option Bool} => rcut_ok (nl := nl) (K := W) (m : Int) hW
  rw [Int.toNat_natCast] at hk hw
  have hm1 : ∀ k : Int, k = m → ∀ {nl : Option Bool}, Impl Try.prog 63 [.sl none nl 1 true (gl (rowsA none) K), .i .i64 k] (rows3 (some 0) (tk m K)) := fun k e => by rw [e]; exact hk
  have hm2 : ∀ k : Int, k = m → ∀ {nl : Option Bool}, Impl Try.prog 63 [.sl none nl 1 true (gl (rowsA none) W), .i .i64 k] (rows3 (some 0) (tk m W)) := fun k e => by rw [e]; exact hw
  have hk0 : (tk m K).length ≤ 1000000 := by unfold tk; rw [List.length_map]; exact hK.1
  generalize tk m K = K1 at *
  generalize tk m W = W1 at *
  refine impl_of (fn := Try.f38) tbl_ok (by kernel_rfl) (by kernel_rfl) rfl ⟨by simp [Try.f38], by decide⟩ rfl fun W0 => ?_
  repeat' first
    | (rw [fz_rows3]; conv => whnf)
    | apply WP.seq
    | (apply WP.region (E := eRCut) mixed tbl_ok; conv => whnf)
    | (apply WP.cond; conv => whnf)
    | (apply WP.skip; conv => whnf)
    | (apply WP.ret; conv => whnf)
    | (apply reg_and; (· kernel_rfl); conv => whnf)
    | (apply ex_and; (· with_reducible exact hm1 _ (by omega)); conv => whnf)
    | (apply ex_and; (· with_reducible exact hm2 _ (by omega)); conv => whnf)
    | (apply ex_ilen; conv => whnf)
    | (apply ex_eq; conv => whnf)
    | (apply And.intro; (· first | with_reducible rfl | exact trivial | exact Or.inl ⟨rfl, rfl⟩ | exact Or.inr rfl | decide | omega | (apply Nat.le_of_ble_eq_true; rfl) | (dsimp only; omega) | (simp only [ints_len, gl_len, mp_len, List.length_cons, List.length_nil, List.length_drop, List.length_take]; omega)); conv => whnf)
    | (apply br_no; (· omega); conv => whnf)
    | (apply br_dec <;> intro hbr <;> (first | rw [decide_eq_true hbr] | rw [decide_eq_false hbr] | skip) <;> conv => whnf)
    | rw [ints_cut]
    | fail
  · rw [show Int.toNat 0 = 0 from rfl, List.drop_zero, show (t.length : Int).toNat = m by omega]
    repeat' first
      | apply True.intro
      | (apply Or.inr; rfl)
      | (apply Or.inl; rfl)
      | (apply or_row; (· rfl); (· rfl); rfl)
      | (apply And.intro <;> conv => whnf)
      | fail
  · rw [show Int.toNat 0 = 0 from rfl, List.drop_zero, show t.take n.toNat = t.take m from take_cap (by omega)]
    repeat' first
      | apply True.intro
      | (apply Or.inr; rfl)
      | (apply Or.inl; rfl)
      | (apply or_row; (· rfl); (· rfl); rfl)
      | (apply And.intro <;> conv => whnf)
      | fail
end Go.Proofs.Ytcngjnhdemjomaa.T
namespace Go.Proofs.Ytcngjnhdemjomaa.T
set_option linter.unusedSimpArgs false
set_option linter.unusedVariables false
open Go
set_option linter.unusedVariables false
set_option maxHeartbeats 8000000
set_option maxRecDepth 100000
def eCopyF : Env := ⟨tbl, [24, 42], [25, 26, 43, 44], [], [(0, [1, 2, 2999, 2000, 2001, 2002, 3999, 3000, 3001, 3002]), (1, [1, 2, 3, 2999, 2000, 2001, 2002, 3999, 3000, 3001, 3002, 4999, 4000, 4001, 4002]), (2, [1, 2, 3, 14, 15, 16, 2999, 2000, 2001, 2002, 3999, 3000, 3001, 3002, 4999, 4000, 4001, 4002]), (3, [1, 2, 3, 14, 15, 16, 17, 2999, 2000, 2001, 2002, 3999, 3000, 3001, 3002, 4999, 4000, 4001, 4002]), (4, [1, 2, 3, 5, 14, 15, 16, 2999, 2000, 2001, 2002, 3999, 3000, 3001, 3002, 4999, 4000, 4001, 4002]), (5, [1, 2, 3, 14, 15, 16, 2999, 2000, 2001, 2002, 3999, 3000, 3001, 3002, 4999, 4000, 4001, 4002]), (6, [1, 2, 3, 14, 15, 16, 2999, 2000, 2001, 2002, 3999, 3000, 3001, 3002, 4999, 4000, 4001, 4002]), (7, [2, 3, 32, 33, 34, 3999, 3000, 3001, 3002, 4999, 4000, 4001, 4002]), (8, [2, 3, 32, 33, 34, 35, 3999, 3000, 3001, 3002, 4999, 4000, 4001, 4002]), (9, [2, 3, 7, 32, 33, 34, 3999, 3000, 3001, 3002, 4999, 4000, 4001, 4002]), (10, [2, 3, 32, 33, 34, 3999, 3000, 3001, 3002, 4999, 4000, 4001, 4002]), (11, [2, 3, 32, 33, 34, 3999, 3000, 3001, 3002, 4999, 4000, 4001, 4002]), (12, [2, 3999, 3000, 3001, 3002])]⟩
theorem copy_okF {n1 n2 n3 : Option Bool} {t : List Int} {K V : List (List (List Int))} (ht : t.length ≤ 1000000) (hK : Siz3 K) (hV : Siz3 V) : Impl Try.prog 33 [.agg [.sl none n1 1 false (ints .i64 t), .sl none n2 1 true (gl (rowsA none) K), .sl none n3 1 true (gl (rowsA none) V)]] (viewA (some 0) t K V) := by
  have hk := hK.1
  have hv := hV.1
  refine impl_of (fn := Try.f33) tbl_ok (by kernel_rfl) (by kernel_rfl) rfl ⟨by simp [Try.f33], by decide⟩ rfl fun W0 => ?_
  repeat' first
    | apply WP.seq
    | (apply WP.region (E := eCopyF) mixed tbl_ok; conv => whnf)
    | apply WP.block
    | (apply reg_and; (· kernel_rfl); conv => whnf)
    | (apply ex_and; (· with_reducible exact clone1_ok ht); conv => whnf)
    | (apply ex_glen; conv => whnf)
    | fail
  refine WP.loopM [5, 16, 17, 4001] (fun i : Nat => [(4001, rows3 (some 0) (K.take i)), (16, .i .i64 i)]) (fun i => i ≤ K.length) (fun i => K.length - i) 0 ?_
  conv => whnf
  refine And.intro (And.intro ?_ ?_) (fun i hi => ?_)
  · first | omega | trivial | skip
  · conv => whnf
    repeat' first
      | apply True.intro
      | (apply ptr_and; (· kernel_rfl); conv => whnf)
      | omega
      | (apply Or.inr; rfl)
      | (apply Or.inl; rfl)
      | (apply or_row; (· rfl); (· rfl); rfl)
      | (apply And.intro <;> conv => whnf)
      | fail
  conv => whnf
  have ha := fun h => gl_at (f := rowsA none) (l := K) (i := i) [] h
  have hm := fun h => hK.2 _ (getD_in (l := K) (i := i) [] h)
  have hts : i < K.length → gl (rowsA none) (K.take i) ++ [rowsA none (K.getD i [])] = gl (rowsA none) (K.take (i + 1)) := fun h => by
    rw [take_snoc [] h]; simp [gl]
  have hml : (K.take i).length ≤ 1000000 := by rw [List.length_take]; omega
  obtain ⟨x, hx⟩ : ∃ x, x = K.getD i [] := ⟨_, rfl⟩
  rw [← hx] at ha hm hts
  by_cases hi2 : i < K.length
  · repeat' first
      | (rw [fz_rows]; conv => whnf)
      | apply WP.seq
      | (apply WP.region (E := eCopyF) mixed tbl_ok; conv => whnf)
      | (apply WP.cond; conv => whnf)
      | (apply WP.skip; conv => whnf)
      | apply WP.block
      | (apply ex_at (ha (by omega)); conv => whnf)
      | (apply reg_and; (· kernel_rfl); conv => whnf)
      | (apply ex_and; (· with_reducible exact copyR_ok (hm (by omega)).1 (hm (by omega)).2); conv => whnf)
      | (apply ex_i64; (· omega); conv => whnf)
      | (apply ex_eq; conv => whnf)
      | (apply nd_gl; (· omega); conv => whnf)
      | (apply And.intro; (· first | with_reducible rfl | exact trivial | exact Or.inl ⟨rfl, rfl⟩ | exact Or.inr rfl | decide | omega | (apply Nat.le_of_ble_eq_true; rfl) | (dsimp only; omega) | (simp only [ints_len, gl_len, mp_len, List.length_cons, List.length_nil, List.length_drop, List.length_take]; omega)); conv => whnf)
      | (apply br_yes; (· omega); conv => whnf)
      | fail
    refine Exists.intro (i + 1) (And.intro (And.intro (by omega) (by omega)) ?_)
    conv => whnf
    repeat' first
      | apply True.intro
      | (apply ptr_and; (· kernel_rfl); conv => whnf)
      | omega
      | (apply Or.inr; rfl)
      | (apply Or.inl; rfl)
      | (apply or_row; (· rfl); (· rfl); rfl)
      | (apply And.intro <;> conv => whnf)
      | (apply or_row; (· rfl); (· rfl); exact hts (by omega))
      | fail
  clear ha hm hts hx hml
  repeat' first
    | apply WP.seq
    | (apply WP.region (E := eCopyF) mixed tbl_ok; conv => whnf)
    | (apply WP.cond; conv => whnf)
    | (apply WP.exit; conv => whnf)
    | apply WP.block
    | (apply reg_and; (· kernel_rfl); conv => whnf)
    | (apply ex_glen; conv => whnf)
    | (apply ex_eq; conv => whnf)
    | (apply And.intro; (· first | with_reducible rfl | exact trivial | exact Or.inl ⟨rfl, rfl⟩ | exact Or.inr rfl | decide | omega | (apply Nat.le_of_ble_eq_true; rfl) | (dsimp only; omega) | (simp only [ints_len, gl_len, mp_len, List.length_cons, List.length_nil, List.length_drop, List.length_take]; omega)); conv => whnf)
    | (apply br_no; (· omega); conv => whnf)
    | fail
  rw [List.take_of_length_le (by omega)]
  refine WP.loopM [7, 34, 35, 4002] (fun j : Nat => [(4002, rows3 (some 0) (V.take j)), (34, .i .i64 j)]) (fun j => j ≤ V.length) (fun j => V.length - j) 0 ?_
  conv => whnf
  refine And.intro (And.intro ?_ ?_) (fun j hj => ?_)
  · first | omega | trivial | skip
  · conv => whnf
    repeat' first
      | apply True.intro
      | (apply ptr_and; (· kernel_rfl); conv => whnf)
      | omega
      | (apply Or.inr; rfl)
      | (apply Or.inl; rfl)
      | (apply or_row; (· rfl); (· rfl); rfl)
      | (apply And.intro <;> conv => whnf)
      | fail
  conv => whnf
  have ha := fun h => gl_at (f := rowsA none) (l := V) (i := j) [] h
  have hm := fun h => hV.2 _ (getD_in (l := V) (i := j) [] h)
  have hts : j < V.length → gl (rowsA none) (V.take j) ++ [rowsA none (V.getD j [])] = gl (rowsA none) (V.take (j + 1)) := fun h => by
    rw [take_snoc [] h]; simp [gl]
  have hml : (V.take j).length ≤ 1000000 := by rw [List.length_take]; omega
  obtain ⟨x, hx⟩ : ∃ x, x = V.getD j [] := ⟨_, rfl⟩
  rw [← hx] at ha hm hts
  by_cases hj2 : j < V.length
  · repeat' first
      | (rw [fz_rows]; conv => whnf)
      | apply WP.seq
      | (apply WP.region (E := eCopyF) mixed tbl_ok; conv => whnf)
      | (apply WP.cond; conv => whnf)
      | (apply WP.skip; conv => whnf)
      | apply WP.block
      | (apply ex_at (ha (by omega)); conv => whnf)
      | (apply reg_and; (· kernel_rfl); conv => whnf)
      | (apply ex_and; (· with_reducible exact copyR_ok (hm (by omega)).1 (hm (by omega)).2); conv => whnf)
      | (apply ex_i64; (· omega); conv => whnf)
      | (apply ex_eq; conv => whnf)
      | (apply nd_gl; (· omega); conv => whnf)
      | (apply And.intro; (· first | with_reducible rfl | exact trivial | exact Or.inl ⟨rfl, rfl⟩ | exact Or.inr rfl | decide | omega | (apply Nat.le_of_ble_eq_true; rfl) | (dsimp only; omega) | (simp only [ints_len, gl_len, mp_len, List.length_cons, List.length_nil, List.length_drop, List.length_take]; omega)); conv => whnf)
      | (apply br_yes; (· omega); conv => whnf)
      | fail
    refine Exists.intro (j + 1) (And.intro (And.intro (by omega) (by omega)) ?_)
    conv => whnf
    repeat' first
      | apply True.intro
      | (apply ptr_and; (· kernel_rfl); conv => whnf)
      | omega
      | (apply Or.inr; rfl)
      | (apply Or.inl; rfl)
      | (apply or_row; (· rfl); (· rfl); rfl)
      | (apply And.intro <;> conv => whnf)
      | (apply or_row; (· rfl); (· rfl); exact hts (by omega))
      | fail
  repeat' first
    | apply WP.seq
    | (apply WP.region (E := eCopyF) mixed tbl_ok; conv => whnf)
    | (apply WP.cond; conv => whnf)
    | (apply WP.ret; conv => whnf)
    | (apply WP.exit; conv => whnf)
    | (apply reg_and; (· kernel_rfl); conv => whnf)
    | (apply ex_eq; conv => whnf)
    | (apply And.intro; (· first | with_reducible rfl | exact trivial | exact Or.inl ⟨rfl, rfl⟩ | exact Or.inr rfl | decide | omega | (apply Nat.le_of_ble_eq_true; rfl) | (dsimp only; omega) | (simp only [ints_len, gl_len, mp_len, List.length_cons, List.length_nil, List.length_drop, List.length_take]; omega)); conv => whnf)
    | (apply br_no; (· omega); conv => whnf)
    | fail
  rw [List.take_of_length_le (by omega)]
  repeat' first
    | apply True.intro
    | (apply Or.inr; rfl)
    | (apply or_row; (· rfl); (· rfl); rfl)
    | (apply And.intro <;> conv => whnf)
    | fail
end Go.Proofs.Ytcngjnhdemjomaa.T
namespace Go.Proofs.Ytcngjnhdemjomaa.T
set_option linter.unusedSimpArgs false
set_option linter.unusedVariables false
open Go
set_option linter.unusedVariables false
set_option maxHeartbeats 8000000
set_option maxRecDepth 100000
/-- Lists of which the first ones are cut. -/
def cK (m i : Nat) (K : List (List (List Int))) : List (List (List Int)) := mp K.length fun l => if l < i then (K.getD l []).take m else K.getD l []
theorem cK_len (m i : Nat) (K : List (List (List Int))) : (cK m i K).length = K.length := mp_len _ _
theorem cK_0 (m : Nat) (K : List (List (List Int))) : K = cK m 0 K := by
  unfold cK
  refine List.ext_getElem (mp_len _ _).symm fun j h1 h2 => ?_
  rw [mp_at, if_neg (by omega), List.getD_eq_getElem?_getD, List.getElem?_eq_getElem h1]; rfl
theorem cK_end (m : Nat) (K : List (List (List Int))) : cK m K.length K = tk m K := by
  unfold cK tk
  refine List.ext_getElem (by rw [mp_len, List.length_map]) fun j h1 h2 => ?_
  rw [mp_len] at h1
  rw [mp_at, if_pos h1, List.getD_eq_getElem?_getD, List.getElem?_eq_getElem h1, List.getElem_map]; rfl
theorem cK_at {m i : Nat} {K : List (List (List Int))} (h : i < K.length) : (gl (rowsA none) (cK m i K))[((i : Nat) : Int).toNat]? = some (rowsA none (K.getD i [])) := by
  rw [Int.toNat_natCast]; unfold gl cK mp; rw [List.getElem?_map, List.getElem?_map, List.getElem?_range h]; simp
theorem cK_set {m i : Nat} {K : List (List (List Int))} (h : i < K.length) : (gl (rowsA none) (cK m i K)).set ((i : Nat) : Int).toNat (rowsA none ((K.getD i []).take m)) = gl (rowsA none) (cK m (i + 1) K) := by
  rw [Int.toNat_natCast]; unfold gl; rw [← List.map_set]
  refine congrArg _ ?_
  unfold cK
  refine mp_set fun j hj => ?_
  by_cases e : j = i
  · subst e; rw [if_pos (by omega), if_pos rfl]
  · rw [if_neg e]
    by_cases h : j < i
    · rw [if_pos h, if_pos (by omega)]
    · rw [if_neg h, if_neg (by omega)]
def eCutS : Env := ⟨tbl, [20], [], [33, 37, 44, 62, 66, 73], [(0, [1, 2, 4, 3999, 3000, 3001, 3002, 5999, 5000, 5001, 5002]), (1, [1, 2, 4, 3999, 3000, 3001, 3002, 5999, 5000, 5001, 5002]), (2, [1, 2, 4, 15, 3999, 3000, 3001, 3002, 5999, 5000, 5001, 5002]), (3, [4, 5999, 5000, 5001, 5002]), (4, [1, 4, 5, 5999, 5000, 5001, 5002, 6999, 6000, 6001, 6002]), (5, [1, 4, 5, 5999, 5000, 5001, 5002, 6999, 6000, 6001, 6002]), (6, [1, 4, 5, 27, 28, 5999, 5000, 5001, 5002, 6999, 6000, 6001, 6002]), (7, [1, 4, 5, 27, 28, 29, 5999, 5000, 5001, 5002, 6999, 6000, 6001, 6002]), (8, [1, 4, 5, 6, 27, 28, 5999, 5000, 5001, 5002, 6999, 6000, 6001, 6002]), (9, [1, 4, 5, 27, 28, 5999, 5000, 5001, 5002, 6999, 6000, 6001, 6002]), (10, [1, 4, 5, 27, 28, 5999, 5000, 5001, 5002, 6999, 6000, 6001, 6002]), (11, [1, 4, 5, 56, 57, 5999, 5000, 5001, 5002, 6999, 6000, 6001, 6002]), (12, [1, 4, 5, 56, 57, 58, 5999, 5000, 5001, 5002, 6999, 6000, 6001, 6002]), (13, [1, 4, 5, 7, 56, 57, 5999, 5000, 5001, 5002, 6999, 6000, 6001, 6002]), (14, [1, 4, 5, 56, 57, 5999, 5000, 5001, 5002, 6999, 6000, 6001, 6002]), (15, [1, 4, 5, 56, 57, 5999, 5000, 5001, 5002, 6999, 6000, 6001, 6002]), (16, [4, 5999, 5000, 5001, 5002])]⟩
theorem cutv_nil {n1 n2 n3 : Option Bool} {t : List Int} {K W : List (List (List Int))} (n : Int) (ht : t.length ≤ 1000000) (h : n < 1 ∨ t.length = 0) : Impl Try.prog 37 [.agg [.sl none n1 1 false (ints .i64 t), .sl none n2 1 true (gl (rowsA none) K), .sl none n3 1 true (gl (rowsA none) W)], .i .i64 n] (viewW [] [] []) := by
  have hmn : (if (if (t.length : Int) < n then (t.length : Int) else n) > 0 then (if (t.length : Int) < n then (t.length : Int) else n) else 0) = 0 := by omega
  refine impl_of (fn := Try.f37) tbl_ok (by kernel_rfl) (by kernel_rfl) rfl ⟨by simp [Try.f37], by decide⟩ rfl fun W0 => ?_
  repeat' first
    | (rw [hmn]; conv => whnf)
    | apply WP.seq
    | (apply WP.region (E := eCutS) mixed tbl_ok; conv => whnf)
    | (apply WP.cond; conv => whnf)
    | (apply WP.ret; conv => whnf)
    | (apply reg_and; (· kernel_rfl); conv => whnf)
    | (apply ex_ilen; conv => whnf)
    | (apply ex_eq; conv => whnf)
    | (apply And.intro; (· first | with_reducible rfl | exact trivial | exact Or.inl ⟨rfl, rfl⟩ | exact Or.inr rfl | decide | omega | (apply Nat.le_of_ble_eq_true; rfl) | (dsimp only; omega) | (simp only [ints_len, gl_len, mp_len, List.length_cons, List.length_nil, List.length_drop, List.length_take]; omega)); conv => whnf)
    | (apply br_t; conv => whnf)
    | fail
  repeat' first
    | apply True.intro
    | (apply Or.inl; rfl)
    | (apply or_row; (· rfl); (· rfl); rfl)
    | (apply And.intro <;> conv => whnf)
    | fail
theorem cutv_ok {n1 n2 n3 : Option Bool} {t : List Int} {K W : List (List (List Int))} (n : Int) (m : Nat) (ht : t.length ≤ 1000000) (hK : Siz3 K) (hW : Siz3 W) (h1 : 1 ≤ n) (h2 : 1 ≤ t.length) (hm : m = min n.toNat t.length) : Impl Try.prog 37 [.agg [.sl none n1 1 false (ints .i64 t), .sl none n2 1 true (gl (rowsA none) K), .sl none n3 1 true (gl (rowsA none) W)], .i .i64 n] (.agg [.sl none none 1 false (ints .i64 (t.take m)), rows3 (some 0) (tk m K), rows3 (some 0) (tk m W)]) := by
  have hmn : (if (if (t.length : Int) < n then (t.length : Int) else n) > 0 then (if (t.length : Int) < n then (t.length : Int) else n) else 0) = (m : Int) := by omega
  have hc := fun {n1 n2 n3 : Option Bool} => copy_okF (n1 := n1) (n2 := n2) (n3 := n3) ht hK hW
  have hmt : m ≤ t.length := by omega
  have hm1 : 1 ≤ m := by omega
  have hk := hK.1
  have hw := hW.1
  clear hm h1 h2
  refine impl_of (fn := Try.f37) tbl_ok (by kernel_rfl) (by kernel_rfl) rfl ⟨by simp [Try.f37], by decide⟩ rfl fun W0 => ?_
  repeat' first
    | (rw [hmn]; conv => whnf)
    | apply WP.seq
    | (apply WP.region (E := eCutS) mixed tbl_ok; conv => whnf)
    | (apply WP.cond; conv => whnf)
    | (apply WP.skip; conv => whnf)
    | apply WP.block
    | (rw [fz_rows3]; conv => whnf)
    | (apply reg_and; (· kernel_rfl); conv => whnf)
    | (apply ex_and; (· with_reducible exact hc); conv => whnf)
    | (apply ex_ilen; conv => whnf)
    | (apply ex_glen; conv => whnf)
    | (apply ex_eq; conv => whnf)
    | (apply And.intro; (· first | with_reducible rfl | exact trivial | exact Or.inl ⟨rfl, rfl⟩ | exact Or.inr rfl | decide | omega | (apply Nat.le_of_ble_eq_true; rfl) | (dsimp only; omega) | (simp only [ints_len, gl_len, mp_len, List.length_cons, List.length_nil, List.length_drop, List.length_take]; omega)); conv => whnf)
    | (apply br_no; (· omega); conv => whnf)
    | rw [ints_cut]
    | fail
  have hx := cK_0 m K
  refine WP.loopM [6, 28, 29, 6001] (fun i : Nat => [(6001, rows3 (some 0) (cK m i K)), (28, .i .i64 i)]) (fun i => i ≤ K.length) (fun i => K.length - i) 0 ?_
  conv => whnf
  refine And.intro (And.intro ?_ ?_) (fun i hi => ?_)
  · omega
  · conv => whnf
    repeat' first
      | apply True.intro
      | (apply ptr_and; (· kernel_rfl); conv => whnf)
      | omega
      | (apply Or.inr; rfl)
      | (apply or_row; (· rfl); (· rfl); rfl)
      | (apply And.intro <;> conv => whnf)
      | (rw [← hx]; apply or_row <;> rfl)
      | fail
  conv => whnf
  clear hx
  have hx2 := fun h => (hK.2 _ (getD_in (l := K) (i := i) [] h))
  have ha := fun h => cK_at (m := m) (K := K) (i := i) h
  have hs := fun h => cK_set (m := m) (K := K) (i := i) h
  have hl := cK_len m i K
  obtain ⟨x, hx⟩ : ∃ x, x = K.getD i [] := ⟨_, rfl⟩
  rw [← hx] at ha hx2 hs
  by_cases hi2 : i < K.length
  · have ha := ha hi2
    have hs := hs hi2
    have hcr : ((gl (rowA none) x).take (Int.toNat (if (x.length : Int) < (m : Int) then (x.length : Int) else (m : Int)))).drop (Int.toNat 0) = gl (rowA none) (x.take m) := by
      rw [gl_cut, take_cap (i := Int.toNat _) (n := m) (by omega)]; rfl
    repeat' first
      | (rw [fz_rows]; conv => whnf)
      | apply WP.seq
      | (apply WP.region (E := eCutS) mixed tbl_ok; conv => whnf)
      | (apply WP.cond; conv => whnf)
      | (apply WP.skip; conv => whnf)
      | apply WP.block
      | (apply ex_at ha; conv => whnf)
      | (rw [hcr]; conv => whnf)
      | (apply reg_and; (· kernel_rfl); conv => whnf)
      | (apply ex_glen; conv => whnf)
      | (apply ex_i64; (· omega); conv => whnf)
      | (apply ex_eq; conv => whnf)
      | (apply nd_gl; (· omega); conv => whnf)
      | (apply And.intro; (· first | with_reducible rfl | exact trivial | exact Or.inl ⟨rfl, rfl⟩ | exact Or.inr rfl | decide | omega | (apply Nat.le_of_ble_eq_true; rfl) | (dsimp only; omega) | (simp only [ints_len, gl_len, mp_len, List.length_cons, List.length_nil, List.length_drop, List.length_take]; omega)); conv => whnf)
      | (apply br_yes; (· omega); conv => whnf)
      | fail
    refine Exists.intro (i + 1) (And.intro (And.intro (by omega) (by omega)) ?_)
    conv => whnf
    repeat' first
      | apply True.intro
      | (apply ptr_and; (· kernel_rfl); conv => whnf)
      | omega
      | (apply Or.inr; rfl)
      | (apply or_row; (· rfl); (· rfl); rfl)
      | (apply And.intro <;> conv => whnf)
      | (apply or_row; (· rfl); (· rfl); exact hs)
      | fail
  clear hs ha hx2 hx hl
  have e : i = K.length := by omega
  subst e
  repeat' first
    | apply WP.seq
    | (apply WP.region (E := eCutS) mixed tbl_ok; conv => whnf)
    | (apply WP.cond; conv => whnf)
    | (apply WP.exit; conv => whnf)
    | apply WP.block
    | (apply reg_and; (· kernel_rfl); conv => whnf)
    | (apply ex_glen; conv => whnf)
    | (apply ex_eq; conv => whnf)
    | (apply And.intro; (· first | with_reducible rfl | exact trivial | exact Or.inl ⟨rfl, rfl⟩ | exact Or.inr rfl | decide | omega | (apply Nat.le_of_ble_eq_true; rfl) | (dsimp only; omega) | (simp only [ints_len, gl_len, mp_len, List.length_cons, List.length_nil, List.length_drop, List.length_take]; omega)); conv => whnf)
    | (apply br_no; (· omega); conv => whnf)
    | fail
  rw [cK_end]
  have hx := cK_0 m W
  refine WP.loopM [7, 57, 58, 6002] (fun j : Nat => [(6002, rows3 (some 0) (cK m j W)), (57, .i .i64 j)]) (fun j => j ≤ W.length) (fun j => W.length - j) 0 ?_
  conv => whnf
  refine And.intro (And.intro ?_ ?_) (fun j hj => ?_)
  · omega
  · conv => whnf
    repeat' first
      | apply True.intro
      | (apply ptr_and; (· kernel_rfl); conv => whnf)
      | omega
      | (apply Or.inr; rfl)
      | (apply or_row; (· rfl); (· rfl); rfl)
      | (apply And.intro <;> conv => whnf)
      | (rw [← hx]; apply or_row <;> rfl)
      | fail
  conv => whnf
  clear hx
  have hx2 := fun h => (hW.2 _ (getD_in (l := W) (i := j) [] h))
  have ha := fun h => cK_at (m := m) (K := W) (i := j) h
  have hs := fun h => cK_set (m := m) (K := W) (i := j) h
  have hl := cK_len m j W
  obtain ⟨x, hx⟩ : ∃ x, x = W.getD j [] := ⟨_, rfl⟩
  rw [← hx] at ha hx2 hs
  by_cases hj2 : j < W.length
  · have ha := ha hj2
    have hs := hs hj2
    have hcr : ((gl (rowA none) x).take (Int.toNat (if (x.length : Int) < (m : Int) then (x.length : Int) else (m : Int)))).drop (Int.toNat 0) = gl (rowA none) (x.take m) := by
      rw [gl_cut, take_cap (i := Int.toNat _) (n := m) (by omega)]; rfl
    repeat' first
      | (rw [fz_rows]; conv => whnf)
      | apply WP.seq
      | (apply WP.region (E := eCutS) mixed tbl_ok; conv => whnf)
      | (apply WP.cond; conv => whnf)
      | (apply WP.skip; conv => whnf)
      | apply WP.block
      | (apply ex_at ha; conv => whnf)
      | (rw [hcr]; conv => whnf)
      | (apply reg_and; (· kernel_rfl); conv => whnf)
      | (apply ex_glen; conv => whnf)
      | (apply ex_i64; (· omega); conv => whnf)
      | (apply ex_eq; conv => whnf)
      | (apply nd_gl; (· omega); conv => whnf)
      | (apply And.intro; (· first | with_reducible rfl | exact trivial | exact Or.inl ⟨rfl, rfl⟩ | exact Or.inr rfl | decide | omega | (apply Nat.le_of_ble_eq_true; rfl) | (dsimp only; omega) | (simp only [ints_len, gl_len, mp_len, List.length_cons, List.length_nil, List.length_drop, List.length_take]; omega)); conv => whnf)
      | (apply br_yes; (· omega); conv => whnf)
      | fail
    refine Exists.intro (j + 1) (And.intro (And.intro (by omega) (by omega)) ?_)
    conv => whnf
    repeat' first
      | apply True.intro
      | (apply ptr_and; (· kernel_rfl); conv => whnf)
      | omega
      | (apply Or.inr; rfl)
      | (apply or_row; (· rfl); (· rfl); rfl)
      | (apply And.intro <;> conv => whnf)
      | (apply or_row; (· rfl); (· rfl); exact hs)
      | fail
  clear hs ha hx2 hx hl
  have e : j = W.length := by omega
  subst e
  repeat' first
    | apply WP.seq
    | (apply WP.region (E := eCutS) mixed tbl_ok; conv => whnf)
    | (apply WP.cond; conv => whnf)
    | (apply WP.ret; conv => whnf)
    | (apply WP.exit; conv => whnf)
    | (apply reg_and; (· kernel_rfl); conv => whnf)
    | (apply ex_eq; conv => whnf)
    | (apply And.intro; (· first | with_reducible rfl | exact trivial | exact Or.inl ⟨rfl, rfl⟩ | exact Or.inr rfl | decide | omega | (apply Nat.le_of_ble_eq_true; rfl) | (dsimp only; omega) | (simp only [ints_len, gl_len, mp_len, List.length_cons, List.length_nil, List.length_drop, List.length_take]; omega)); conv => whnf)
    | (apply br_no; (· omega); conv => whnf)
    | fail
  rw [cK_end]
  repeat' first
    | apply True.intro
    | (apply Or.inr; rfl)
    | (apply or_row; (· rfl); (· rfl); rfl)
    | (apply And.intro <;> conv => whnf)
    | fail
end Go.Proofs.Ytcngjnhdemjomaa.T
namespace Go.Proofs.Ytcngjnhdemjomaa.T
set_option linter.unusedSimpArgs false
set_option linter.unusedVariables false
open Go
set_option linter.unusedVariables false
structure Vw where
  t : List Int
  k : List (List (List Int))
  v : List (List (List Int))
structure VwW (x : Vw) : Prop where
  t : IntsW x.t
  k : SizM x.k
  v : SizM x.v
theorem rdRows2 : Rd Try.prog 58 (fun l : List (List Int) => [rowsA none l]) (fun l => l.length ≤ 140737488351232 ∧ ∀ r ∈ l, r.length ≤ 140737488351232) :=
  rd_map (fun l => l) (fun l => rfl) (fun l h => ⟨by omega, fun x hx => (h.2 x hx).1⟩) (rd_slice (el := rowA none) (B := 24) (sz := 1) (dp := true) Try.underlying58 (by kernel_rfl) (by decide) (by kernel_rfl) rdRow (fun a => .inr rfl) (fun h => by cases h))
theorem rdRows3 : Rd Try.prog 38 (fun l : List (List (List Int)) => [.sl none none 1 true (gl (rowsA none) l)]) SizM :=
  rd_map (fun l => l) (fun l => rfl) (fun l h => ⟨by omega, fun x hx => h.2 x hx⟩) (rd_slice (el := rowsA none) (B := 24) (sz := 1) (dp := true) Try.underlying38 (by kernel_rfl) (by decide) (by kernel_rfl) rdRows2 (fun a => .inr rfl) (fun h => by cases h))
theorem rdCache : Rd Try.prog 40 (fun x : List (List (List Int)) × List (List (List Int)) => [.sl none none 1 true (gl (rowsA none) x.1), .sl none none 1 true (gl (rowsA none) x.2)]) (fun x => SizM x.1 ∧ SizM x.2) :=
  rd_mapR (rd_struct Try.underlying40 (by kernel_rfl) (sg_cons (n := 1) rfl (by kernel_rfl) rdRows3 (sg_one (n := 1) rfl (by kernel_rfl) rdRows3))) (fun x => x) (fun _ => rfl) (fun _ h => h)
abbrev viewL (x : Vw) : List AV := [.sl none none 1 false (ints .i64 x.t), .sl none none 1 true (gl (rowsA none) x.k), .sl none none 1 true (gl (rowsA none) x.v)]
theorem rdView : Rd Try.prog 69 viewL VwW :=
  rd_mapR (rd_struct Try.underlying69 (by kernel_rfl) (sg_cons (n := 1) rfl (by kernel_rfl) rdInts (sg_one (n := 2) rfl (by kernel_rfl) rdCache))) (fun x => (⟨x.1, x.2.1, x.2.2⟩ : Vw)) (fun _ => rfl) (fun _ h => ⟨h.1, h.2.1, h.2.2⟩)
end Go.Proofs.Ytcngjnhdemjomaa.T
namespace Go.Proofs.Ytcngjnhdemjomaa.T
set_option linter.unusedSimpArgs false
set_option linter.unusedVariables false
open Go
set_option linter.unusedVariables false
set_option maxHeartbeats 8000000
set_option maxRecDepth 100000
/-- So many lists of so many rows of so many numbers at most. -/
def Sm3 (K : List (List (List Int))) : Prop := K.length ≤ 5 ∧ ∀ r ∈ K, r.length ≤ 130 ∧ ∀ x ∈ r, x.length ≤ 40
theorem cutR_small {r : List (List Int)} (h : r.length ≤ 130 ∧ ∀ x ∈ r, x.length ≤ 40) : cutR 130 r = r := by
  unfold cutR
  rw [List.take_of_length_le h.1]
  refine (List.map_congr_left fun x hx => ?_).trans (List.map_id r)
  exact List.take_of_length_le (h.2 x hx)
theorem cutL_small {K : List (List (List Int))} (h : Sm3 K) : cutL K = K := by
  unfold cutL
  rw [List.take_of_length_le h.1]
  refine (List.map_congr_left fun x hx => ?_).trans (List.map_id K)
  exact cutR_small (h.2 x hx)
theorem sm_cutL (K : List (List (List Int))) : Sm3 (cutL K) := by
  unfold cutL
  refine ⟨by rw [List.length_map, List.length_take]; omega, fun r hr => ?_⟩
  obtain ⟨r0, _, rfl⟩ := List.mem_map.1 hr
  unfold cutR
  refine ⟨by rw [List.length_map, List.length_take]; omega, fun x hx => ?_⟩
  obtain ⟨x0, _, rfl⟩ := List.mem_map.1 hx
  rw [List.length_take]; omega
theorem sm_tk {K : List (List (List Int))} (m : Nat) (h : Sm3 K) : Sm3 (tk m K) := by
  unfold tk
  refine ⟨by rw [List.length_map]; exact h.1, fun r hr => ?_⟩
  obtain ⟨r0, h0, rfl⟩ := List.mem_map.1 hr
  exact ⟨by rw [List.length_take]; have := (h.2 r0 h0).1; omega, fun x hx => (h.2 r0 h0).2 x (List.mem_of_mem_take hx)⟩
theorem sm_siz {K : List (List (List Int))} (h : Sm3 K) : Siz3 K := ⟨by have := h.1; omega, fun r hr => ⟨by have := (h.2 r hr).1; omega, fun x hx => by have := (h.2 r hr).2 x hx; omega⟩⟩
theorem sm_sizM {K : List (List (List Int))} (h : Sm3 K) : SizM K := ⟨by have := h.1; omega, fun r hr => ⟨by have := (h.2 r hr).1; omega, fun x hx => by have := (h.2 r hr).2 x hx; omega⟩⟩
theorem sm_siz12 {K : List (List (List Int))} (h : Sm3 K) : K.length ≤ 1000000000000 ∧ ∀ x ∈ K, x.length ≤ 1000000000000 ∧ ∀ y ∈ x, y.length ≤ 1000000000000 := ⟨by have := h.1; omega, fun r hr => ⟨by have := (h.2 r hr).1; omega, fun x hx => by have := (h.2 r hr).2 x hx; omega⟩⟩
/-- What is told of a small view is the view. -/
theorem told9_small {n1 n2 n3 : Option Bool} {t : List Int} {K W : List (List (List Int))} (ht : t.length ≤ 130) (hK : Sm3 K) (hW : Sm3 W) : Impl Try.prog 32 [.agg [.sl none n1 1 false (ints .i64 t), .sl none n2 1 true (gl (rowsA none) K), .sl none n3 1 true (gl (rowsA none) W)]] (viewA (some 0) t K W) := by
  have := told9_ok (n1 := n1) (n2 := n2) (n3 := n3) (t := t) (by omega) (sm_sizM hK) (sm_sizM hW)
  rwa [cutL_small hK, cutL_small hW, List.take_of_length_le ht] at this
theorem of9_small {n1 n2 n3 : Option Bool} {t : List Int} {K W : List (List (List Int))} (ht : t.length ≤ 130) (hK : Sm3 K) (hW : Sm3 W) : Impl Try.prog 36 [.agg [.sl none n1 1 false (ints .i64 t), .sl none n2 1 true (gl (rowsA none) K), .sl none n3 1 true (gl (rowsA none) W)]] (viewA (some 0) t K W) := by
  have := of9_ok (n1 := n1) (n2 := n2) (n3 := n3) (t := t) (by omega) (sm_sizM hK) (sm_sizM hW)
  rwa [cutL_small hK, cutL_small hW, List.take_of_length_le ht] at this
theorem same9_small {m1 m2 m3 n1 n2 n3 : Option Bool} {t : List Int} {K W : List (List (List Int))} (ht : t.length ≤ 130) (hK : Sm3 K) (hW : Sm3 W) : Impl Try.prog 35 [.agg [.sl none m1 1 false (ints .i64 t), .sl none m2 1 true (gl (rowsA none) K), .sl none m3 1 true (gl (rowsA none) W)], .agg [.sl none n1 1 false (ints .i64 t), .sl none n2 1 true (gl (rowsA none) K), .sl none n3 1 true (gl (rowsA none) W)]] (.b true) := by
  have := same9_ok (m1 := m1) (m2 := m2) (m3 := m3) (n1 := n1) (n2 := n2) (n3 := n3) (t := t) (u := t) (K1 := K) (K2 := K) (W1 := W) (W2 := W) (by omega) (sm_siz12 hK) (sm_siz12 hW)
  rwa [decide_eq_true ⟨rfl, rfl, rfl⟩] at this
theorem sm_nil : Sm3 [] := ⟨by decide, fun r hr => by cases hr⟩
def eStepCuts : Env := ⟨tbl, [7], [], [], [(0, [1, 2, 3999, 3000, 3001, 3002]), (1, [1, 5, 6999, 6000, 6001, 6002]), (2, [4])]⟩
theorem stepcuts_law (x : Vw) (n : Int) (hx : VwW x) (hn : IntKind.i64.min ≤ n ∧ n ≤ IntKind.i64.max) : Impl Try.prog 11 [.agg (viewL x), .i .i64 n] (.b true) := by
  have hT := told9_ok (n1 := none) (n2 := none) (n3 := none) hx.t.1 hx.k hx.v
  have hK := sm_cutL x.k
  have hW := sm_cutL x.v
  have htl : (x.t.take 130).length ≤ 130 := by rw [List.length_take]; omega
  generalize cutL x.k = K at *
  generalize cutL x.v = W at *
  generalize x.t.take 130 = t at *
  have hO := fun {n1 n2 n3 : Option Bool} => of9_small (n1 := n1) (n2 := n2) (n3 := n3) htl hK hW
  have hC := fun {n1 n2 n3 : Option Bool} => copy_ok (n1 := n1) (n2 := n2) (n3 := n3) (t := t) (by omega) (sm_siz hK) (sm_siz hW)
  have hT2 := fun {n1 n2 n3 : Option Bool} => told9_small (n1 := n1) (n2 := n2) (n3 := n3) htl hK hW
  have hS := fun {m1 m2 m3 n1 n2 n3 : Option Bool} => same9_small (m1 := m1) (m2 := m2) (m3 := m3) (n1 := n1) (n2 := n2) (n3 := n3) htl hK hW
  by_cases h : n < 1 ∨ t.length = 0
  · have hU := fun {n1 n2 n3 : Option Bool} => cutv_nil (n1 := n1) (n2 := n2) (n3 := n3) (K := K) (W := W) n (t := t) (by omega) h
    have hR := fun {n1 n2 n3 : Option Bool} => rcutv_nil (n1 := n1) (n2 := n2) (n3 := n3) (K := K) (W := W) n (t := t) (by omega) h
    have hT3 := fun {n1 n2 n3 : Option Bool} => told9_small (n1 := n1) (n2 := n2) (n3 := n3) (t := []) (K := []) (W := []) (by decide) sm_nil sm_nil
    have hS3 := fun {m1 m2 m3 n1 n2 n3 : Option Bool} => same9_small (m1 := m1) (m2 := m2) (m3 := m3) (n1 := n1) (n2 := n2) (n3 := n3) (t := []) (K := []) (W := []) (by decide) sm_nil sm_nil
    refine impl_of (fn := Try.f11) tbl_ok (by kernel_rfl) (by kernel_rfl) rfl ⟨by simp [Try.f11], by decide⟩ rfl fun W0 => ?_
    repeat' first
      | apply WP.seq
      | (apply WP.region (E := eStepCuts) mixed tbl_ok; conv => whnf)
      | (apply WP.ret; conv => whnf)
      | (rw [fz_rows3]; conv => whnf)
      | (rw [fz_rowsW]; conv => whnf)
      | (apply reg_and; (· kernel_rfl); conv => whnf)
      | (apply ex_and; (· with_reducible exact awake9_ok); conv => whnf)
      | (apply ex_and; (· with_reducible exact hT); conv => whnf)
      | (apply ex_and; (· with_reducible exact hO); conv => whnf)
      | (apply ex_and; (· with_reducible exact hC); conv => whnf)
      | (apply ex_and; (· with_reducible exact hT2); conv => whnf)
      | (apply ex_and; (· with_reducible exact hS); conv => whnf)
      | (apply ex_and; (· with_reducible exact hU); conv => whnf)
      | (apply ex_and; (· with_reducible exact hR); conv => whnf)
      | (apply ex_and; (· with_reducible exact hT3); conv => whnf)
      | (apply ex_and; (· with_reducible exact hS3); conv => whnf)
      | ((with_reducible apply gd_t); conv => whnf)
      | (apply And.intro; (· first | with_reducible rfl | exact trivial | exact Or.inl ⟨rfl, rfl⟩ | exact Or.inr rfl | decide | omega | (apply Nat.le_of_ble_eq_true; rfl) | (dsimp only; omega) | (simp only [ints_len, gl_len, mp_len, List.length_cons, List.length_nil, List.length_drop, List.length_take]; omega)); conv => whnf)
      | fail
  · have hU := fun {n1 n2 n3 : Option Bool} => cutv_ok (n1 := n1) (n2 := n2) (n3 := n3) (K := K) (W := W) n (min n.toNat t.length) (t := t) (by omega) (sm_siz hK) (sm_siz hW) (by omega) (by omega) rfl
    have hR := fun {n1 n2 n3 : Option Bool} => rcutv_ok (n1 := n1) (n2 := n2) (n3 := n3) (K := K) (W := W) n (min n.toNat t.length) (t := t) (by omega) (sm_siz hK) (sm_siz hW) (by omega) (by omega) rfl
    have hK3 := sm_tk (min n.toNat t.length) hK
    have hW3 := sm_tk (min n.toNat t.length) hW
    have ht3 : (t.take (min n.toNat t.length)).length ≤ 130 := by rw [List.length_take]; omega
    generalize tk (min n.toNat t.length) K = K3 at *
    generalize tk (min n.toNat t.length) W = W3 at *
    generalize t.take (min n.toNat t.length) = t3 at *
    have hT3 := fun {n1 n2 n3 : Option Bool} => told9_small (n1 := n1) (n2 := n2) (n3 := n3) ht3 hK3 hW3
    have hS3 := fun {m1 m2 m3 n1 n2 n3 : Option Bool} => same9_small (m1 := m1) (m2 := m2) (m3 := m3) (n1 := n1) (n2 := n2) (n3 := n3) ht3 hK3 hW3
    refine impl_of (fn := Try.f11) tbl_ok (by kernel_rfl) (by kernel_rfl) rfl ⟨by simp [Try.f11], by decide⟩ rfl fun W0 => ?_
    repeat' first
      | apply WP.seq
      | (apply WP.region (E := eStepCuts) mixed tbl_ok; conv => whnf)
      | (apply WP.ret; conv => whnf)
      | (rw [fz_rows3]; conv => whnf)
      | (rw [fz_rowsW]; conv => whnf)
      | (apply reg_and; (· kernel_rfl); conv => whnf)
      | (apply ex_and; (· with_reducible exact awake9_ok); conv => whnf)
      | (apply ex_and; (· with_reducible exact hT); conv => whnf)
      | (apply ex_and; (· with_reducible exact hO); conv => whnf)
      | (apply ex_and; (· with_reducible exact hC); conv => whnf)
      | (apply ex_and; (· with_reducible exact hT2); conv => whnf)
      | (apply ex_and; (· with_reducible exact hS); conv => whnf)
      | (apply ex_and; (· with_reducible exact hU); conv => whnf)
      | (apply ex_and; (· with_reducible exact hR); conv => whnf)
      | (apply ex_and; (· with_reducible exact hT3); conv => whnf)
      | (apply ex_and; (· with_reducible exact hS3); conv => whnf)
      | ((with_reducible apply gd_t); conv => whnf)
      | (apply And.intro; (· first | with_reducible rfl | exact trivial | exact Or.inl ⟨rfl, rfl⟩ | exact Or.inr rfl | decide | omega | (apply Nat.le_of_ble_eq_true; rfl) | (dsimp only; omega) | (simp only [ints_len, gl_len, mp_len, List.length_cons, List.length_nil, List.length_drop, List.length_take]; omega)); conv => whnf)
      | fail
end Go.Proofs.Ytcngjnhdemjomaa.T
namespace Go.Proofs.Ytcngjnhdemjomaa.T
set_option linter.unusedSimpArgs false
set_option linter.unusedVariables false
open Go
set_option linter.unusedVariables false
set_option maxHeartbeats 8000000
set_option maxRecDepth 100000
theorem vw_sm {V D L : Nat} {t : List Int} {K W : List (List (List Int))} (h : VwG V D L t K W) (hD : D ≤ 32 ∧ L ≤ 4) : Sm3 K ∧ Sm3 W := by
  obtain ⟨h1, h2, h3, h4, h5⟩ := h
  refine ⟨⟨by omega, fun r hr => ⟨by have := (h4 r hr).1; omega, fun x hx => by have := ((h4 r hr).2 x hx).1; omega⟩⟩, ⟨by omega, fun r hr => ⟨by have := (h5 r hr).1; omega, fun x hx => by have := ((h5 r hr).2 x hx).1; omega⟩⟩⟩
theorem tk_vK {D H s q : Nat} {w : Wts} {t : List Int} (h0 : 0 < q) (h : q ≤ t.length) : tk q (vK D H s w t) = vK D H s w (t.take q) := by
  have hl : (t.take q).length = q := by rw [List.length_take]; omega
  unfold vK tk sKeys
  rw [if_neg (by omega), if_neg (by omega), mp_map, hl]
  exact mp_congr fun l _ => keys_take h l
theorem tk_vV {D H s q : Nat} {w : Wts} {t : List Int} (h0 : 0 < q) (h : q ≤ t.length) : tk q (vV D H s w t) = vV D H s w (t.take q) := by
  have hl : (t.take q).length = q := by rw [List.length_take]; omega
  unfold vV tk sVals
  rw [if_neg (by omega), if_neg (by omega), mp_map, hl]
  exact mp_congr fun l _ => vals_take h l
/-- From nothing on. -/
theorem all_new {nt : Option Bool} {c : Cfg} {V D n H L s : Nat} {w : Wts} {u : List Int} (hc : CfgG c V D n H L s) (hg : WtsG V D H L w) (hu : prm c.vocab u = 0) : Impl Try.prog 31 [cfgA c, wtsA none none w, viewZ, .sl none nt 1 false (ints .i64 u)] (.tup [viewA none u (vK D H s w u) (vV D H s w u), rowA none (sFull V D H s w u), .i .i64 0]) := by
  have hl := (prm_zero hu).2.1
  exact all_ok (nt := nt) (n1 := some true) (n2 := some true) (n3 := some true) (t := []) hc hg (fun x hx => by cases hx) hu (by rw [List.length_nil]; omega)
theorem all_bad {nt : Option Bool} {c : Cfg} {w : Wts} {u : List Int} (hu : prm c.vocab u ≠ 0) (hl : u.length ≤ 1000000) : Impl Try.prog 31 [cfgA c, wtsA none none w, viewZ, .sl none nt 1 false (ints .i64 u)] (.tup [viewW [] [] [], rowA (some 0) [], .i .i64 (prm c.vocab u)]) :=
  all_err (nt := nt) (n1 := some true) (n2 := some true) (n3 := some true) (t := []) (K := []) (W := []) hu hl
def eStepFull : Env := ⟨tbl, [], [], [], [(0, [1, 2, 3, 4, 5999, 5000, 5001, 5002, 5003, 5004]), (1, [1, 2, 3, 4, 5999, 5000, 5001, 5002, 5003, 5004]), (2, [2, 3, 4, 9, 10, 5999, 5000, 5001, 5002, 5003, 5004, 10999, 10000, 10001, 10002, 10003, 10004, 10005, 10006, 10007]), (3, [2, 3, 4, 9, 40, 5999, 5000, 5001, 5002, 5003, 5004, 10999, 10000, 10001, 10002, 10003, 10004, 10005, 10006, 10007]), (4, [8]), (5, [2, 3, 4, 9, 11, 12, 13, 5999, 5000, 5001, 5002, 5003, 5004, 10999, 10000, 10001, 10002, 10003, 10004, 10005, 10006, 10007, 12999, 12000, 12001, 12002]), (6, [2, 3, 4, 9, 11, 12, 13, 14, 15, 16, 5999, 5000, 5001, 5002, 5003, 5004, 10999, 10000, 10001, 10002, 10003, 10004, 10005, 10006, 10007, 12999, 12000, 12001, 12002, 16999, 16000, 16001]), (7, [2, 3, 4, 9, 11, 12, 13, 14, 15, 16, 65, 5999, 5000, 5001, 5002, 5003, 5004, 10999, 10000, 10001, 10002, 10003, 10004, 10005, 10006, 10007, 12999, 12000, 12001, 12002, 16999, 16000, 16001]), (8, [8]), (9, [2, 3, 4, 9, 11, 12, 98, 5999, 5000, 5001, 5002, 5003, 5004, 10999, 10000, 10001, 10002, 10003, 10004, 10005, 10006, 10007, 12999, 12000, 12001, 12002]), (10, [8]), (11, [2, 3, 4, 9, 11, 12, 106, 5999, 5000, 5001, 5002, 5003, 5004, 10999, 10000, 10001, 10002, 10003, 10004, 10005, 10006, 10007, 12999, 12000, 12001, 12002]), (12, [8]), (13, [2, 3, 4, 9, 11, 12, 17, 19, 5999, 5000, 5001, 5002, 5003, 5004, 10999, 10000, 10001, 10002, 10003, 10004, 10005, 10006, 10007, 12999, 12000, 12001, 12002, 18999, 18000, 18001, 18002]), (14, [2, 3, 4, 9, 11, 12, 17, 19, 20, 21, 22, 5999, 5000, 5001, 5002, 5003, 5004, 10999, 10000, 10001, 10002, 10003, 10004, 10005, 10006, 10007, 12999, 12000, 12001, 12002, 18999, 18000, 18001, 18002, 21999, 21000, 21001, 21002]), (15, [4, 11, 12, 19, 20, 21, 22, 23, 24, 25, 5999, 5000, 5001, 5002, 5003, 5004, 12999, 12000, 12001, 12002, 21999, 21000, 21001, 21002, 24999, 24000, 24001, 24002]), (16, [8])]⟩
theorem stepfull_law (c : Cfg) (seed : Int) (t : List Int) (n : Int) (hseed : IntKind.u64.min ≤ seed ∧ seed ≤ IntKind.u64.max) (ht : IntsW t) (hn : IntKind.i64.min ≤ n ∧ n ≤ IntKind.i64.max) : Impl Try.prog 12 [cfgA c, .i .u64 seed, .sl none none 1 false (ints .i64 t), .i .i64 n] (.b true) := by
  have hF : ∀ {no : Option Bool}, Impl Try.prog 16 [.sl none no 1 false (ints .i64 t), .i .i64 8] (.sl (some 0) none 1 false (ints .i64 (t.take 8))) := fun {no} => few8_ok 8 ht.1 (by omega)
  have htl : (t.take 8).length ≤ 8 := by rw [List.length_take]; omega
  generalize t.take 8 = t1 at *
  obtain ⟨sc, hsm, h0⟩ : ∃ (sc : Int), Impl Try.prog 15 [cfgA c] (.i .i64 sc) ∧ (sc = 0 ∨ sc = 1) := by
    have := small_ok c
    by_cases h : small c
    · rw [if_pos h] at this; exact ⟨1, this, .inr rfl⟩
    · rw [if_neg h] at this; exact ⟨0, this, .inl rfl⟩
  by_cases hsh : shp c = 0
  · have hSh : Impl Try.prog 39 [cfgA c] (.i .i64 0) := by
      have := rshape_ok c
      rwa [hsh] at this
    obtain ⟨V, D, nh, H, L, s, hc⟩ := shp_good hsh
    have hM := make_goodC hc hseed
    have hg : WtsG V D H L (sMake seed V D H L) := make_good (by have := hc.gv; omega) hc.gd.2 hc.gh.2
    generalize sMake seed V D H L = w at *
    have hlay := hg.layers
    by_cases hs0 : sc = 0
    · subst hs0
      clear hg
      refine impl_of (fn := Try.f12) tbl_ok (by kernel_rfl) (by kernel_rfl) rfl ⟨by simp [Try.f12], by decide⟩ rfl fun W0 => ?_
      repeat' first
        | apply WP.seq
        | (apply WP.region (E := eStepFull) mixed tbl_ok; conv => whnf)
        | (apply WP.cond; conv => whnf)
        | (apply WP.ret; conv => whnf)
        | (apply reg_and; (· kernel_rfl); conv => whnf)
        | (apply ex_and; (· with_reducible exact hF); conv => whnf)
        | (apply ex_and; (· with_reducible exact hM); conv => whnf)
        | (apply ex_and; (· with_reducible exact hsm); conv => whnf)
        | (apply ex_and; (· with_reducible exact awake9_ok); conv => whnf)
        | (apply ex_eq; conv => whnf)
        | (apply gd_br)
        | (apply And.intro; (· first | with_reducible rfl | exact trivial | exact Or.inl ⟨rfl, rfl⟩ | exact Or.inr rfl | decide | omega | (apply Nat.le_of_ble_eq_true; rfl) | (dsimp only; omega) | (simp only [ints_len, gl_len, mp_len, List.length_cons, List.length_nil, List.length_drop, List.length_take]; omega)); conv => whnf)
        | apply br_not
        | (apply br_t; conv => whnf)
        | fail
    have hs1 : sc = 1 := by omega
    subst hs1
    by_cases hp : prm c.vocab t1 = 0
    · have hA := fun {nt : Option Bool} => all_new (nt := nt) hc hg hp
      have hU := fun {nt : Option Bool} => full_good (nt := nt) hc hg hp
      obtain ⟨p1, p2, p3⟩ := prm_zero hp
      have e1 : sKeys D H s w t1 = vK D H s w t1 := by unfold vK; rw [if_neg (by omega)]
      have e2 : sVals D H s w t1 = vV D H s w t1 := by unfold vV; rw [if_neg (by omega)]
      rw [e1, e2] at hU
      obtain ⟨b1, b2⟩ := vw_sm (vw_good (D := D) (H := H) (s := s) hg (fun x hx => by have := p3 x hx; have := hc.gv; omega) p2) (by have := hc.gd; have := hc.gl; omega)
      have hT := fun {n1 n2 n3 : Option Bool} => told9_small (n1 := n1) (n2 := n2) (n3 := n3) (t := t1) (by omega) b1 b2
      have hS := fun {m1 m2 m3 n1 n2 n3 : Option Bool} => same9_small (m1 := m1) (m2 := m2) (m3 := m3) (n1 := n1) (n2 := n2) (n3 := n3) (t := t1) (by omega) b1 b2
      have hlk : (sFull V D H s w t1).length ≤ 1000000000000 := by unfold sFull sLikes; rw [sApply_len]; have := hc.gv; omega
      by_cases hn2 : n < 1 ∨ (t1.length : Int) ≤ n
      · clear hg
        generalize sFull V D H s w t1 = fu at *
        generalize vK D H s w t1 = k1 at *
        generalize vV D H s w t1 = v1 at *
        refine impl_of (fn := Try.f12) tbl_ok (by kernel_rfl) (by kernel_rfl) rfl ⟨by simp [Try.f12], by decide⟩ rfl fun W0 => ?_
        repeat' first
          | apply WP.seq
          | (apply WP.region (E := eStepFull) mixed tbl_ok; conv => whnf)
          | (apply WP.cond; conv => whnf)
          | (apply WP.skip; conv => whnf)
          | (apply WP.ret; conv => whnf)
          | (rw [fz_blks]; conv => whnf)
          | (rw [fz_nil]; conv => whnf)
          | (rw [fz_rows3]; conv => whnf)
          | (rw [decide_eq_true (rfl : fu = fu)]; conv => whnf)
          | (apply reg_and; (· kernel_rfl); conv => whnf)
          | (apply ex_and; (· with_reducible exact hF); conv => whnf)
          | (apply ex_and; (· with_reducible exact hM); conv => whnf)
          | (apply ex_and; (· with_reducible exact hsm); conv => whnf)
          | (apply ex_and; (· with_reducible exact hA); conv => whnf)
          | (apply ex_and; (· with_reducible exact hU); conv => whnf)
          | (apply ex_and; (· with_reducible exact hT); conv => whnf)
          | (apply ex_and; (· with_reducible exact hS); conv => whnf)
          | (apply ex_and; (· with_reducible exact same3_ok hlk); conv => whnf)
          | (apply ex_and; (· with_reducible exact awake9_ok); conv => whnf)
          | (apply ex_ilen; conv => whnf)
          | (apply ex_eq; conv => whnf)
          | ((with_reducible apply gd_t); conv => whnf)
          | ((with_reducible apply gd_f); conv => whnf)
          | ((with_reducible apply gd_nt); conv => whnf)
          | (apply gd_br)
          | (apply And.intro; (· first | with_reducible rfl | exact trivial | exact Or.inl ⟨rfl, rfl⟩ | exact Or.inr rfl | decide | omega | (apply Nat.le_of_ble_eq_true; rfl) | (dsimp only; omega) | (simp only [ints_len, gl_len, mp_len, List.length_cons, List.length_nil, List.length_drop, List.length_take]; omega)); conv => whnf)
          | apply br_not
          | (apply br_t; conv => whnf)
          | (apply br_f; conv => whnf)
          | (apply br_yes; (· omega); conv => whnf)
          | (apply br_dec <;> intro hbr <;> (first | rw [decide_eq_true hbr] | rw [decide_eq_false hbr] | skip) <;> conv => whnf)
          | fail
        all_goals omega
      · obtain ⟨q, rfl⟩ : ∃ q : Nat, n = q := ⟨n.toNat, by omega⟩
        have hpq : prm c.vocab (t1.take q) = 0 := prm_good (by rw [List.length_take]; omega) (by rw [List.length_take]; omega) fun j hj => by
          rw [List.length_take] at hj
          have := p3 _ (getD_mem (l := t1) (i := j) (by omega) 0)
          rwa [List.getD_eq_getElem?_getD, List.getElem?_take, if_pos (by omega), ← List.getD_eq_getElem?_getD]
        have hpd : prm c.vocab (t1.drop q) = 0 := prm_good (by rw [List.length_drop]; omega) (by rw [List.length_drop]; omega) fun j hj => by
          rw [List.length_drop] at hj
          have := p3 _ (getD_mem (l := t1) (i := q + j) (by omega) 0)
          rwa [List.getD_eq_getElem?_getD, List.getElem?_drop, ← List.getD_eq_getElem?_getD]
        have hAq := fun {nt : Option Bool} => all_new (nt := nt) hc hg hpq
        have hAd : ∀ {nt n1 n2 n3 : Option Bool}, Impl Try.prog 31 [cfgA c, wtsA none none w, .agg [.sl none n1 1 false (ints .i64 (t1.take q)), .sl none n2 1 true (gl (rowsA none) (vK D H s w (t1.take q))), .sl none n3 1 true (gl (rowsA none) (vV D H s w (t1.take q)))], .sl none nt 1 false (ints .i64 (t1.drop q))] (.tup [viewA none t1 (vK D H s w t1) (vV D H s w t1), rowA none (sFull V D H s w t1), .i .i64 0]) := fun {nt n1 n2 n3} => by
          have := all_ok (nt := nt) (n1 := n1) (n2 := n2) (n3 := n3) (t := t1.take q) (u := t1.drop q) hc hg (fun x hx => by have := p3 x (List.mem_of_mem_take hx); have := hc.gv; omega) hpd (by rw [List.length_take, List.length_drop]; omega)
          rwa [List.take_append_drop] at this
        have hC : ∀ {n1 n2 n3 : Option Bool}, Impl Try.prog 37 [.agg [.sl none n1 1 false (ints .i64 t1), .sl none n2 1 true (gl (rowsA none) (vK D H s w t1)), .sl none n3 1 true (gl (rowsA none) (vV D H s w t1))], .i .i64 q] (.agg [.sl none none 1 false (ints .i64 (t1.take q)), rows3 (some 0) (vK D H s w (t1.take q)), rows3 (some 0) (vV D H s w (t1.take q))]) := fun {n1 n2 n3} => by
          have := cutv_ok (n1 := n1) (n2 := n2) (n3 := n3) (t := t1) (K := vK D H s w t1) (W := vV D H s w t1) (q : Int) q (by omega) (sm_siz b1) (sm_siz b2) (by omega) (by omega) (by omega)
          rwa [tk_vK (by omega) (by omega), tk_vV (by omega) (by omega)] at this
        have hcut : (t1.take ((q : Nat) : Int).toNat).drop (Int.toNat 0) = t1.take q := by rw [Int.toNat_natCast]; rfl
        have hcut2 : (t1.take (((ints .i64 t1).length : Nat) : Int).toNat).drop ((q : Nat) : Int).toNat = t1.drop q := by rw [ints_len, Int.toNat_natCast, Int.toNat_natCast, List.take_length]
        clear hg e1 e2
        generalize sFull V D H s w (t1.take q) = fq at *
        generalize vK D H s w (t1.take q) = kq at *
        generalize vV D H s w (t1.take q) = vq at *
        generalize sFull V D H s w t1 = fu at *
        generalize vK D H s w t1 = k1 at *
        generalize vV D H s w t1 = v1 at *
        have hdl : (t1.drop q).length = t1.length - q := List.length_drop
        refine impl_of (fn := Try.f12) tbl_ok (by kernel_rfl) (by kernel_rfl) rfl ⟨by simp [Try.f12], by decide⟩ rfl fun W0 => ?_
        repeat' first
          | apply WP.seq
          | (apply WP.region (E := eStepFull) mixed tbl_ok; conv => whnf)
          | (apply WP.cond; conv => whnf)
          | (apply WP.skip; conv => whnf)
          | (apply WP.ret; conv => whnf)
          | (rw [fz_blks]; conv => whnf)
          | (rw [fz_nil]; conv => whnf)
          | (rw [ints_cut, hcut]; conv => whnf)
          | (rw [ints_cut, hcut2]; conv => whnf)
          | (rw [fz_rows3]; conv => whnf)
          | (rw [decide_eq_true (rfl : fu = fu)]; conv => whnf)
          | (apply reg_and; (· kernel_rfl); conv => whnf)
          | (apply ex_and; (· with_reducible exact hF); conv => whnf)
          | (apply ex_and; (· with_reducible exact hM); conv => whnf)
          | (apply ex_and; (· with_reducible exact hsm); conv => whnf)
          | (apply ex_and; (· with_reducible exact hA); conv => whnf)
          | (apply ex_and; (· with_reducible exact hU); conv => whnf)
          | (apply ex_and; (· with_reducible exact hT); conv => whnf)
          | (apply ex_and; (· with_reducible exact hS); conv => whnf)
          | (apply ex_and; (· with_reducible exact hAq); conv => whnf)
          | (apply ex_and; (· with_reducible exact hC); conv => whnf)
          | (apply ex_and; (· with_reducible exact hAd); conv => whnf)
          | (apply ex_and; (· with_reducible exact hSh); conv => whnf)
          | (apply ex_and; (· with_reducible exact same3_ok hlk); conv => whnf)
          | (apply ex_and; (· with_reducible exact awake9_ok); conv => whnf)
          | (apply ex_ilen; conv => whnf)
          | (apply ex_eq; conv => whnf)
          | ((with_reducible apply gd_t); conv => whnf)
          | ((with_reducible apply gd_nt); conv => whnf)
          | (apply gd_br)
          | (apply And.intro; (· first | with_reducible rfl | exact trivial | exact Or.inl ⟨rfl, rfl⟩ | exact Or.inr rfl | decide | omega | (apply Nat.le_of_ble_eq_true; rfl) | (dsimp only; omega) | (simp only [ints_len, gl_len, mp_len, List.length_cons, List.length_nil, List.length_drop, List.length_take]; omega)); conv => whnf)
          | apply br_not
          | (apply br_t; conv => whnf)
          | (apply br_f; conv => whnf)
          | (apply br_no; (· omega); conv => whnf)
          | fail
        all_goals rfl
    · have hA := fun {nt : Option Bool} => all_bad (nt := nt) (w := w) hp (by omega)
      have hU := fun {nt : Option Bool} => full_prm (nt := nt) (w := w) (by have := hc.gl; omega) (by omega) (chkW_of hc hg) hp
      have hT3 := fun {n1 n2 n3 : Option Bool} => told9_small (n1 := n1) (n2 := n2) (n3 := n3) (t := []) (K := []) (W := []) (by decide) sm_nil sm_nil
      have hS3 : ∀ {m1 m2 m3 : Option Bool}, Impl Try.prog 35 [.agg [.sl none m1 1 false (ints .i64 []), .sl none m2 1 true (gl (rowsA none) []), .sl none m3 1 true (gl (rowsA none) [])], viewZ] (.b true) := fun {m1 m2 m3} => same9_small (m1 := m1) (m2 := m2) (m3 := m3) (n1 := some true) (n2 := some true) (n3 := some true) (t := []) (K := []) (W := []) (by decide) sm_nil sm_nil
      clear hg
      generalize prm c.vocab t1 = k at *
      refine impl_of (fn := Try.f12) tbl_ok (by kernel_rfl) (by kernel_rfl) rfl ⟨by simp [Try.f12], by decide⟩ rfl fun W0 => ?_
      repeat' first
        | apply WP.seq
        | (apply WP.region (E := eStepFull) mixed tbl_ok; conv => whnf)
        | (apply WP.cond; conv => whnf)
        | (apply WP.skip; conv => whnf)
        | (apply WP.ret; conv => whnf)
        | (rw [fz_blks]; conv => whnf)
        | (rw [fz_nil]; conv => whnf)
        | (rw [fz_rowsW]; conv => whnf)
        | (rw [fz_rows3]; conv => whnf)
        | (apply reg_and; (· kernel_rfl); conv => whnf)
        | (apply ex_and; (· with_reducible exact hF); conv => whnf)
        | (apply ex_and; (· with_reducible exact hM); conv => whnf)
        | (apply ex_and; (· with_reducible exact hsm); conv => whnf)
        | (apply ex_and; (· with_reducible exact hA); conv => whnf)
        | (apply ex_and; (· with_reducible exact hU); conv => whnf)
        | (apply ex_and; (· with_reducible exact hT3); conv => whnf)
        | (apply ex_and; (· with_reducible exact hS3); conv => whnf)
        | (apply ex_and; (· with_reducible exact awake9_ok); conv => whnf)
        | (apply ex_ilen; conv => whnf)
        | (apply ex_eq; conv => whnf)
        | ((with_reducible apply gd_t); conv => whnf)
        | (apply gd_br)
        | (apply And.intro; (· first | with_reducible rfl | exact trivial | exact Or.inl ⟨rfl, rfl⟩ | exact Or.inr rfl | decide | omega | (apply Nat.le_of_ble_eq_true; rfl) | (dsimp only; omega) | (simp only [ints_len, gl_len, mp_len, List.length_cons, List.length_nil, List.length_drop, List.length_take]; omega)); conv => whnf)
        | apply br_not
        | (apply br_t; conv => whnf)
        | (apply br_f; conv => whnf)
        | (apply br_yes; (· omega); conv => whnf)
        | (apply br_no; (· omega); conv => whnf)
        | fail
  · have hM := make_err (c := c) (seed := seed) hsh
    generalize shp c = k at *
    refine impl_of (fn := Try.f12) tbl_ok (by kernel_rfl) (by kernel_rfl) rfl ⟨by simp [Try.f12], by decide⟩ rfl fun W0 => ?_
    repeat' first
      | apply WP.seq
      | (apply WP.region (E := eStepFull) mixed tbl_ok; conv => whnf)
      | (apply WP.cond; conv => whnf)
      | (apply WP.ret; conv => whnf)
      | (apply reg_and; (· kernel_rfl); conv => whnf)
      | (apply ex_and; (· with_reducible exact hF); conv => whnf)
      | (apply ex_and; (· with_reducible exact hM); conv => whnf)
      | (apply ex_and; (· with_reducible exact awake9_ok); conv => whnf)
      | (apply ex_eq; conv => whnf)
      | (apply gd_br)
      | (apply And.intro; (· first | with_reducible rfl | exact trivial | exact Or.inl ⟨rfl, rfl⟩ | exact Or.inr rfl | decide | omega | (apply Nat.le_of_ble_eq_true; rfl) | (dsimp only; omega) | (simp only [ints_len, gl_len, mp_len, List.length_cons, List.length_nil, List.length_drop, List.length_take]; omega)); conv => whnf)
      | apply br_not
      | (apply br_t; conv => whnf)
      | (apply br_no; (· omega); conv => whnf)
      | fail
end Go.Proofs.Ytcngjnhdemjomaa.T
