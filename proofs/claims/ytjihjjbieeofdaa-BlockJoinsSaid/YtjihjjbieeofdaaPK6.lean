/- What functions of the program come to, on trees. No condition but those that the theorems name. -/
import Derived.Test.YtjihjjbieeofdaaPK5
namespace Go.Proofs.Ytjihjjbieeofdaa.T
set_option linter.unusedSimpArgs false
set_option linter.unusedVariables false
open Go
set_option linter.unusedVariables false
set_option maxHeartbeats 8000000
set_option maxRecDepth 100000
def sK (D : Nat) (b : Blk) (x : List Int) : List Int := sApply D D b.k.d (sNorm x b.first)
def sV (D : Nat) (b : Blk) (x : List Int) : List Int := sApply D D b.v.d (sNorm x b.first)
def sX (D H s : Nat) (b : Blk) (x : List Int) (ks vs : List (List Int)) : List Int := (sOne D H s b x ks vs).x
def lx (D H s : Nat) (b : Blk) (F : Nat → List Int) (i : Nat) : List Int := sX D H s b (F i) (mp i fun j => sK D b (F j)) (mp i fun j => sV D b (F j))
end Go.Proofs.Ytjihjjbieeofdaa.T
namespace Go.Proofs.Ytjihjjbieeofdaa.T
set_option linter.unusedSimpArgs false
set_option linter.unusedVariables false
open Go
set_option linter.unusedVariables false
set_option maxHeartbeats 8000000
set_option maxRecDepth 100000
/-- Rows that come into layer l. -/
def X (D H s : Nat) (w : Wts) (F0 : Nat → List Int) : Nat → Nat → List Int
  | 0, i => F0 i
  | l + 1, i => match w.blocks[l]? with
    | some b => lx D H s b (X D H s w F0 l) i
    | none => []
abbrev rows3 (o : Option Nat) (l : List (List (List Int))) : AV := .sl o none 1 true (gl (rowsA none) l)
theorem fz_rows3 (l : List (List (List Int))) : AV.fzL (gl (rowsA none) l) = gl (rowsA none) l := by
  rw [AV.fzL_map]; unfold gl; rw [List.map_map]
  refine List.map_congr_left fun r _ => ?_
  show AV.sl none none 1 true (AV.fzL (gl (rowA none) r)) = _
  rw [fz_rows]
end Go.Proofs.Ytjihjjbieeofdaa.T
namespace Go.Proofs.Ytjihjjbieeofdaa.T
set_option linter.unusedSimpArgs false
set_option linter.unusedVariables false
open Go
set_option linter.unusedVariables false
set_option maxHeartbeats 4000000
set_option maxRecDepth 100000
/-- However a region goes, it comes to M. -/
theorem WP.cutR {P : Program} {W0 : Bs} {N : Nat} {ops : Array Oper} {draw : Bool} {d : Code} {st : St} {K : Exit → St → Prop} (id : Nat) (ms : List Nat) (M : St) (h : fixK ms st fun F => appK M F fun I => WP P W0 N (.region id ops draw) st (thenK (fun st' => ptrB I I = true ∧ subK st' I) K) ∧ WP P W0 N d I K) : WP P W0 N (.region id ops draw) st (thenK (fun st' => WP P W0 N d st' K) K) := by
  obtain ⟨F, hF⟩ := fixK_eq ms st fun F => appK M F fun I => WP P W0 N (.region id ops draw) st (thenK (fun st' => ptrB I I = true ∧ subK st' I) K) ∧ WP P W0 N d I K
  rw [hF, appK_eq] at h
  exact h.1.mono fun e st' hk => by
    cases e with
    | normal => exact WP.sub ⟨hk.1, hk.2⟩ h.2
    | _ => exact hk
def eFew3 : Env := ⟨tbl, [], [], [], [(0, [0, 1]), (1, [0, 1, 8]), (2, [0]), (3, [4])]⟩
theorem few3_ok {no : Option Bool} {l : List Int} (n : Nat) (hl : l.length ≤ 140737488351232) (hn : n ≤ 1000000) : Impl Try.prog 21 [.sl none no 1 false (ints .i32 l), .i .i64 n] (rowA (some 0) (l.take n)) := by
  refine impl_of (fn := Try.f21) tbl_ok (by kernel_rfl) (by kernel_rfl) rfl ⟨by simp [Try.f21], by decide⟩ rfl fun W0 => ?_
  repeat' first
    | apply WP.seq
    | (apply WP.region (E := eFew3) mixed tbl_ok; conv => whnf)
    | (apply WP.cond; conv => whnf)
    | (apply WP.skip; conv => whnf)
    | (apply WP.ret; conv => whnf)
    | (apply reg_and; (· kernel_rfl); conv => whnf)
    | (apply ex_ilen; conv => whnf)
    | (apply ex_eq; conv => whnf)
    | (apply And.intro; (· first | with_reducible rfl | exact trivial | exact Or.inl ⟨rfl, rfl⟩ | exact Or.inr rfl | decide | omega | (apply Nat.le_of_ble_eq_true; rfl) | (dsimp only; omega) | (simp only [ints_len, gl_len, mp_len, List.length_cons, List.length_nil, List.length_drop, List.length_take]; omega)); conv => whnf)
    | (apply br_dec <;> intro hbr <;> (first | rw [decide_eq_true hbr] | rw [decide_eq_false hbr] | skip) <;> conv => whnf)
    | rw [ints_cut]
    | fail
  · refine And.intro (Or.inl rfl) (Or.inl (And.intro rfl (And.intro rfl ?_)))
    rw [List.nil_append, Int.toNat_natCast]; rfl
  · refine And.intro (Or.inl rfl) (Or.inl (And.intro rfl (And.intro rfl ?_)))
    rw [List.nil_append, List.take_of_length_le (by omega)]
def eFew8 : Env := ⟨tbl, [], [], [], [(0, [0, 1]), (1, [0, 1, 8]), (2, [0]), (3, [4])]⟩
theorem few8_ok {no : Option Bool} {l : List Int} (n : Nat) (hl : l.length ≤ 140737488351232) (hn : n ≤ 1000000) : Impl Try.prog 20 [.sl none no 1 false (ints .i64 l), .i .i64 n] (.sl (some 0) none 1 false (ints .i64 (l.take n))) := by
  refine impl_of (fn := Try.f20) tbl_ok (by kernel_rfl) (by kernel_rfl) rfl ⟨by simp [Try.f20], by decide⟩ rfl fun W0 => ?_
  repeat' first
    | apply WP.seq
    | (apply WP.region (E := eFew8) mixed tbl_ok; conv => whnf)
    | (apply WP.cond; conv => whnf)
    | (apply WP.skip; conv => whnf)
    | (apply WP.ret; conv => whnf)
    | (apply reg_and; (· kernel_rfl); conv => whnf)
    | (apply ex_ilen; conv => whnf)
    | (apply ex_eq; conv => whnf)
    | (apply And.intro; (· first | with_reducible rfl | exact trivial | exact Or.inl ⟨rfl, rfl⟩ | exact Or.inr rfl | decide | omega | (apply Nat.le_of_ble_eq_true; rfl) | (dsimp only; omega) | (simp only [ints_len, gl_len, mp_len, List.length_cons, List.length_nil, List.length_drop, List.length_take]; omega)); conv => whnf)
    | (apply br_dec <;> intro hbr <;> (first | rw [decide_eq_true hbr] | rw [decide_eq_false hbr] | skip) <;> conv => whnf)
    | rw [ints_cut]
    | fail
  · refine And.intro (Or.inl rfl) (Or.inl (And.intro rfl (And.intro rfl ?_)))
    rw [List.nil_append, Int.toNat_natCast]; rfl
  · refine And.intro (Or.inl rfl) (Or.inl (And.intro rfl (And.intro rfl ?_)))
    rw [List.nil_append, List.take_of_length_le (by omega)]
def small (c : Cfg) : Prop := c.dim ≤ 8 ∧ c.hidden ≤ 8 ∧ c.layers ≤ 2
instance (c : Cfg) : Decidable (small c) := by unfold small; infer_instance
def eSame3 : Env := ⟨tbl, [], [], [], [(0, [0, 1]), (1, [0, 1, 10]), (2, [4]), (3, [0, 1, 12, 13]), (4, [0, 1, 12, 13, 14]), (5, [0, 1, 5, 12, 13]), (6, [0, 1, 12, 13, 24]), (7, [4]), (8, [0, 1, 12, 13]), (9, [4])]⟩
theorem same3_ok {n1 n2 : Option Bool} {a b : List Int} (hl : a.length ≤ 1000000000000) : Impl Try.prog 77 [.sl none n1 1 false (ints .i32 a), .sl none n2 1 false (ints .i32 b)] (.b (decide (a = b))) := by
  refine impl_of (fn := Try.f77) tbl_ok (by kernel_rfl) (by kernel_rfl) rfl ⟨by simp [Try.f77], by decide⟩ rfl fun W0 => ?_
  repeat' first
    | apply WP.seq
    | (apply WP.region (E := eSame3) mixed tbl_ok; conv => whnf)
    | (apply WP.cond; conv => whnf)
    | (apply WP.skip; conv => whnf)
    | (apply WP.ret; conv => whnf)
    | apply WP.block
    | (apply reg_and; (· kernel_rfl); conv => whnf)
    | (apply ex_ilen; conv => whnf)
    | (apply ex_eq; conv => whnf)
    | (apply And.intro; (· first | with_reducible rfl | exact trivial | exact Or.inl ⟨rfl, rfl⟩ | exact Or.inr rfl | decide | omega | (apply Nat.le_of_ble_eq_true; rfl) | (dsimp only; omega) | (simp only [ints_len, gl_len, mp_len, List.length_cons, List.length_nil, List.length_drop, List.length_take]; omega)); conv => whnf)
    | apply br_not
    | (apply br_dec <;> intro hbr <;> (first | rw [decide_eq_true hbr] | rw [decide_eq_false hbr] | skip) <;> conv => whnf)
    | fail
  · refine WP.loopM [5, 13, 14] (fun i : Nat => [(13, .i .i64 i)]) (fun i => i ≤ a.length ∧ ∀ j, j < i → a.getD j 0 = b.getD j 0) (fun i => a.length - i) 0 ?_
    conv => whnf
    refine And.intro (And.intro ?_ ?_) (fun i hi => ?_)
    · exact ⟨by omega, fun j hj => absurd hj (by omega)⟩
    · conv => whnf
      repeat' first
        | apply True.intro
        | (apply ptr_and; (· kernel_rfl); conv => whnf)
        | omega
        | (apply Or.inr; rfl)
        | (apply or_row; (· rfl); (· rfl); rfl)
        | (apply And.intro <;> conv => whnf)
        | fail
    conv => whnf
    obtain ⟨hi1, hi2⟩ := hi
    repeat' first
      | apply WP.seq
      | (apply WP.region (E := eSame3) mixed tbl_ok; conv => whnf)
      | (apply WP.cond; conv => whnf)
      | (apply WP.skip; conv => whnf)
      | (apply WP.ret; conv => whnf)
      | (apply WP.exit; conv => whnf)
      | apply WP.block
      | (apply reg_and; (· kernel_rfl); conv => whnf)
      | (apply ex_i64; (· omega); conv => whnf)
      | (apply ex_ints; (· omega); conv => whnf)
      | (apply ex_eq; conv => whnf)
      | (apply nd_ints; (· omega); conv => whnf)
      | (apply And.intro; (· first | with_reducible rfl | exact trivial | exact Or.inl ⟨rfl, rfl⟩ | exact Or.inr rfl | decide | omega | (apply Nat.le_of_ble_eq_true; rfl) | (dsimp only; omega) | (simp only [ints_len, gl_len, mp_len, List.length_cons, List.length_nil, List.length_drop, List.length_take]; omega)); conv => whnf)
      | apply br_not
      | (apply br_dec <;> intro hbr <;> (first | rw [decide_eq_true hbr] | rw [decide_eq_false hbr] | skip) <;> conv => whnf)
      | fail
    · refine Exists.intro (i + 1) (And.intro (And.intro ⟨by omega, fun j hj => ?_⟩ (by omega)) ?_)
      · by_cases e : j = i
        · subst e; rw [Int.toNat_natCast] at *; omega
        · exact hi2 j (by omega)
      · conv => whnf
        repeat' first
          | apply True.intro
          | (apply ptr_and; (· kernel_rfl); conv => whnf)
          | omega
          | (apply Or.inr; rfl)
          | (apply or_row; (· rfl); (· rfl); rfl)
          | (apply And.intro <;> conv => whnf)
          | fail
    · refine (decide_eq_false fun e => ?_).symm
      subst e; exact absurd rfl (by assumption)
    · exact (decide_eq_true (list_ext (by omega) fun j hj => hi2 j (by omega))).symm
  · refine (decide_eq_false fun e => ?_).symm
    subst e; omega
theorem gl_at {α : Type} {f : α → AV} {l : List α} {i : Nat} (d : α) (h : i < l.length) : (gl f l)[((i : Nat) : Int).toNat]? = some (f (l.getD i d)) := by
  rw [Int.toNat_natCast]; unfold gl
  rw [List.getElem?_map, List.getD_eq_getElem?_getD, List.getElem?_eq_getElem h]; rfl
theorem lists_ext {α : Type} {d : α} {a b : List α} (hl : a.length = b.length) (h : ∀ j, j < a.length → a.getD j d = b.getD j d) : a = b := by
  refine List.ext_getElem hl fun j h1 h2 => ?_
  have := h j h1
  simpa [List.getD_eq_getElem?_getD, h1, h2] using this
theorem getD_in {α : Type} {l : List α} {i : Nat} (d : α) (h : i < l.length) : l.getD i d ∈ l := by
  rw [List.getD_eq_getElem?_getD, List.getElem?_eq_getElem h]; exact List.getElem_mem h
/-- Rows, read only, known to be nil or not. -/
abbrev rowsN (nl : Option Bool) (r : List (List Int)) : AV := .sl none nl 1 true (gl (rowA none) r)
theorem fz_rowsN (nl : Option Bool) (l : List (List (List Int))) : AV.fzL (gl (rowsN nl) l) = gl (rowsN nl) l := by
  rw [AV.fzL_map]; unfold gl; rw [List.map_map]
  refine List.map_congr_left fun r _ => ?_
  show AV.sl none nl 1 true (AV.fzL (gl (rowA none) r)) = _
  rw [fz_rows]
def eSame8 : Env := ⟨tbl, [], [], [], [(0, [0, 1]), (1, [0, 1, 11]), (2, [4]), (3, [0, 1, 13, 14]), (4, [0, 1, 13, 14, 15]), (5, [0, 1, 5, 13, 14]), (6, [0, 1, 5, 13, 14, 27]), (7, [4]), (8, [0, 1, 5, 13, 14, 32, 33]), (9, [0, 1, 5, 13, 14, 32, 33, 34]), (10, [0, 1, 5, 6, 13, 14, 32, 33]), (11, [0, 1, 5, 13, 14, 32, 33, 51]), (12, [4]), (13, [0, 1, 5, 13, 14, 32, 33]), (14, [0, 1, 13, 14]), (15, [4])]⟩
theorem same8_ok {n1 n2 n3 n4 : Option Bool} {a b : List (List (List Int))} (hl : a.length ≤ 1000000000000) (hl2 : ∀ x ∈ a, x.length ≤ 1000000000000 ∧ ∀ y ∈ x, y.length ≤ 1000000000000) : Impl Try.prog 51 [.sl none n1 1 true (gl (rowsN n3) a), .sl none n2 1 true (gl (rowsN n4) b)] (.b (decide (a = b))) := by
  refine impl_of (fn := Try.f51) tbl_ok (by kernel_rfl) (by kernel_rfl) rfl ⟨by simp [Try.f51], by decide⟩ rfl fun W0 => ?_
  repeat' first
    | apply WP.seq
    | (apply WP.region (E := eSame8) mixed tbl_ok; conv => whnf)
    | (apply WP.cond; conv => whnf)
    | (apply WP.skip; conv => whnf)
    | (apply WP.ret; conv => whnf)
    | apply WP.block
    | (apply reg_and; (· kernel_rfl); conv => whnf)
    | (apply ex_glen; conv => whnf)
    | (apply ex_eq; conv => whnf)
    | (apply And.intro; (· first | with_reducible rfl | exact trivial | exact Or.inl ⟨rfl, rfl⟩ | exact Or.inr rfl | decide | omega | (apply Nat.le_of_ble_eq_true; rfl) | (dsimp only; omega) | (simp only [ints_len, gl_len, mp_len, List.length_cons, List.length_nil, List.length_drop, List.length_take]; omega)); conv => whnf)
    | apply br_not
    | (apply br_dec <;> intro hbr <;> (first | rw [decide_eq_true hbr] | rw [decide_eq_false hbr] | skip) <;> conv => whnf)
    | fail
  · refine WP.loopM [5, 6, 14, 15, 27, 32, 33, 34, 51] (fun i : Nat => [(14, .i .i64 i)]) (fun i => i ≤ a.length ∧ ∀ j, j < i → a.getD j [] = b.getD j []) (fun i => a.length - i) 0 ?_
    conv => whnf
    refine And.intro (And.intro ?_ ?_) (fun i hi => ?_)
    · exact ⟨by omega, fun j hj => absurd hj (by omega)⟩
    · conv => whnf
      repeat' first
        | apply True.intro
        | (apply ptr_and; (· kernel_rfl); conv => whnf)
        | omega
        | (apply Or.inr; rfl)
        | (apply or_row; (· rfl); (· rfl); rfl)
        | (apply And.intro <;> conv => whnf)
        | fail
    conv => whnf
    obtain ⟨hi1, hi2⟩ := hi
    have ha := fun h => gl_at (f := rowsN n3) (l := a) (i := i) [] h
    have hb := fun h => gl_at (f := rowsN n4) (l := b) (i := i) [] h
    have hx2 := fun h => hl2 _ (getD_in (l := a) (i := i) [] h)
    obtain ⟨x, hx⟩ : ∃ x, x = a.getD i [] := ⟨_, rfl⟩
    obtain ⟨y, hy⟩ : ∃ y, y = b.getD i [] := ⟨_, rfl⟩
    have hxy : a = b → x = y := fun e => by rw [hx, hy, e]
    rw [← hx] at ha hx2
    rw [← hy] at hb
    repeat' first
      | (rw [fz_rows]; conv => whnf)
      | apply WP.seq
      | (apply WP.region (E := eSame8) mixed tbl_ok; conv => whnf)
      | (apply WP.cond; conv => whnf)
      | (apply WP.skip; conv => whnf)
      | (apply WP.ret; conv => whnf)
      | (apply WP.exit; conv => whnf)
      | apply WP.block
      | (apply ex_at (ha (by omega)); conv => whnf)
      | (apply ex_at (hb (by omega)); conv => whnf)
      | (apply reg_and; (· kernel_rfl); conv => whnf)
      | (apply ex_glen; conv => whnf)
      | (apply ex_eq; conv => whnf)
      | (apply nd_gl; (· omega); conv => whnf)
      | (apply And.intro; (· first | with_reducible rfl | exact trivial | exact Or.inl ⟨rfl, rfl⟩ | exact Or.inr rfl | decide | omega | (apply Nat.le_of_ble_eq_true; rfl) | (dsimp only; omega) | (simp only [ints_len, gl_len, mp_len, List.length_cons, List.length_nil, List.length_drop, List.length_take]; omega)); conv => whnf)
      | apply br_not
      | (apply br_dec <;> intro hbr <;> (first | rw [decide_eq_true hbr] | rw [decide_eq_false hbr] | skip) <;> conv => whnf)
      | fail
    · refine WP.loopM [6, 33, 34, 51] (fun j : Nat => [(33, .i .i64 j)]) (fun j => j ≤ x.length ∧ ∀ k, k < j → x.getD k [] = y.getD k []) (fun j => x.length - j) 0 ?_
      conv => whnf
      refine And.intro (And.intro ?_ ?_) (fun j hj => ?_)
      · exact ⟨by omega, fun j hj => absurd hj (by omega)⟩
      · conv => whnf
        repeat' first
          | apply True.intro
          | (apply ptr_and; (· kernel_rfl); conv => whnf)
          | omega
          | (apply Or.inr; rfl)
          | (apply or_row; (· rfl); (· rfl); rfl)
          | (apply And.intro <;> conv => whnf)
          | fail
      conv => whnf
      obtain ⟨hj1, hj2⟩ := hj
      have hu := fun h => gl_at (f := rowA none) (l := x) (i := j) [] h
      have hv := fun h => gl_at (f := rowA none) (l := y) (i := j) [] h
      have hu2 := fun h h2 => (hx2 h).2 _ (getD_in (l := x) (i := j) [] h2)
      obtain ⟨u, hu1⟩ : ∃ u, u = x.getD j [] := ⟨_, rfl⟩
      obtain ⟨v, hv1⟩ : ∃ v, v = y.getD j [] := ⟨_, rfl⟩
      have huv : x = y → u = v := fun e => by rw [hu1, hv1, e]
      rw [← hu1] at hu hu2
      rw [← hv1] at hv
      repeat' first
        | (rw [fz_rows]; conv => whnf)
        | apply WP.seq
        | (apply WP.region (E := eSame8) mixed tbl_ok; conv => whnf)
        | (apply WP.cond; conv => whnf)
        | (apply WP.skip; conv => whnf)
        | (apply WP.ret; conv => whnf)
        | (apply WP.exit; conv => whnf)
        | apply WP.block
        | (apply ex_at (ha (by omega)); conv => whnf)
        | (apply ex_at (hb (by omega)); conv => whnf)
        | (apply ex_at (hu (by omega)); conv => whnf)
        | (apply ex_at (hv (by omega)); conv => whnf)
        | (apply reg_and; (· kernel_rfl); conv => whnf)
        | (apply ex_and; (· with_reducible exact same3_ok (hu2 (by omega) (by omega))); conv => whnf)
        | (apply ex_i64; (· omega); conv => whnf)
        | (apply ex_eq; conv => whnf)
        | (apply nd_gl; (· omega); conv => whnf)
        | (apply And.intro; (· first | with_reducible rfl | exact trivial | exact Or.inl ⟨rfl, rfl⟩ | exact Or.inr rfl | decide | omega | (apply Nat.le_of_ble_eq_true; rfl) | (dsimp only; omega) | (simp only [ints_len, gl_len, mp_len, List.length_cons, List.length_nil, List.length_drop, List.length_take]; omega)); conv => whnf)
        | apply br_not
        | (apply br_dec <;> intro hbr <;> (first | rw [decide_eq_true hbr] | rw [decide_eq_false hbr] | skip) <;> conv => whnf)
        | fail
      · refine Exists.intro (j + 1) (And.intro (And.intro ⟨by omega, fun k hk => ?_⟩ (by omega)) ?_)
        · by_cases e : k = j
          · subst e; rw [← hu1, ← hv1]; assumption
          · exact hj2 k (by omega)
        · conv => whnf
          repeat' first
            | apply True.intro
            | (apply ptr_and; (· kernel_rfl); conv => whnf)
            | omega
            | (apply Or.inr; rfl)
            | (apply or_row; (· rfl); (· rfl); rfl)
            | (apply And.intro <;> conv => whnf)
            | fail
      · refine (decide_eq_false fun e => ?_).symm
        exact absurd (huv (hxy e)) (by assumption)
      · have exy : x = y := lists_ext (d := []) (by omega) fun k hk => hj2 k (by omega)
        refine Exists.intro (i + 1) (And.intro (And.intro ⟨by omega, fun k hk => ?_⟩ (by omega)) ?_)
        · by_cases e : k = i
          · subst e; rw [← hx, ← hy]; assumption
          · exact hi2 k (by omega)
        · conv => whnf
          repeat' first
            | apply True.intro
            | (apply ptr_and; (· kernel_rfl); conv => whnf)
            | omega
            | (apply Or.inr; rfl)
            | (apply or_row; (· rfl); (· rfl); rfl)
            | (apply And.intro <;> conv => whnf)
            | fail
    · refine (decide_eq_false fun e => ?_).symm
      have := hxy e
      subst this; omega
    · exact (decide_eq_true (lists_ext (d := []) (by omega) fun j hj => hi2 j (by omega))).symm
  · refine (decide_eq_false fun e => ?_).symm
    subst e; omega
end Go.Proofs.Ytjihjjbieeofdaa.T
namespace Go.Proofs.Ytjihjjbieeofdaa.T
set_option linter.unusedSimpArgs false
set_option linter.unusedVariables false
open Go
set_option linter.unusedVariables false
set_option maxHeartbeats 8000000
set_option maxRecDepth 100000
abbrev rows3F (o : Option Nat) (l : List (List (List Int))) : AV := .sl o none 1 true (gl (rowsN (some false)) l)
end Go.Proofs.Ytjihjjbieeofdaa.T
namespace Go.Proofs.Ytjihjjbieeofdaa.T
set_option linter.unusedSimpArgs false
set_option linter.unusedVariables false
open Go
set_option linter.unusedVariables false
set_option maxHeartbeats 8000000
set_option maxRecDepth 100000
end Go.Proofs.Ytjihjjbieeofdaa.T
namespace Go.Proofs.Ytjihjjbieeofdaa.T
set_option linter.unusedSimpArgs false
set_option linter.unusedVariables false
open Go
set_option linter.unusedVariables false
set_option maxHeartbeats 8000000
set_option maxRecDepth 100000
end Go.Proofs.Ytjihjjbieeofdaa.T
namespace Go.Proofs.Ytjihjjbieeofdaa.T
set_option linter.unusedSimpArgs false
set_option linter.unusedVariables false
open Go
set_option linter.unusedVariables false
set_option maxHeartbeats 8000000
set_option maxRecDepth 100000
structure BlkS (b : Blk) : Prop where
  first : b.first.length ≤ 140737488351232
  q : b.q.d.length ≤ 140737488351232
  k : b.k.d.length ≤ 140737488351232
  v : b.v.d.length ≤ 140737488351232
  o : b.o.d.length ≤ 140737488351232
  second : b.second.length ≤ 140737488351232
  up : b.up.d.length ≤ 140737488351232
  down : b.down.d.length ≤ 140737488351232
structure WtsS (w : Wts) : Prop where
  embed : w.embed.d.length ≤ 140737488351232
  blocks : ∀ b ∈ w.blocks, BlkS b
  len : w.blocks.length ≤ 140737488351232
  last : w.last.length ≤ 140737488351232
  out : w.out.d.length ≤ 140737488351232
theorem take_cap {α : Type} {l : List α} {i n : Nat} (h : i = n ∨ (l.length ≤ i ∧ i ≤ n)) : l.take i = l.take n := by
  rcases h with rfl | h
  · rfl
  · rw [List.take_of_length_le (by omega), List.take_of_length_le (by omega)]
end Go.Proofs.Ytjihjjbieeofdaa.T
namespace Go.Proofs.Ytjihjjbieeofdaa.T
set_option linter.unusedSimpArgs false
set_option linter.unusedVariables false
open Go
set_option linter.unusedVariables false
set_option maxHeartbeats 8000000
set_option maxRecDepth 100000
end Go.Proofs.Ytjihjjbieeofdaa.T
namespace Go.Proofs.Ytjihjjbieeofdaa.T
set_option linter.unusedSimpArgs false
set_option linter.unusedVariables false
open Go
set_option linter.unusedVariables false
set_option maxHeartbeats 8000000
set_option maxRecDepth 100000
def headOk6 (c : Cfg) (w : Wts) : Prop := matOk w.embed.r w.embed.c w.embed.d c.vocab c.dim ∧ matOk w.out.r w.out.c w.out.d c.vocab c.dim ∧ (w.last.length : Int) = c.dim ∧ (w.blocks.length : Int) = c.layers
instance (c : Cfg) (w : Wts) : Decidable (headOk6 c w) := by unfold headOk6; infer_instance
instance (c : Cfg) (w : Wts) (n : Nat) : Decidable (headOk6 c w ∧ ∀ b ∈ w.blocks.take n, blkOk c b) := instDecidableAnd
end Go.Proofs.Ytjihjjbieeofdaa.T

