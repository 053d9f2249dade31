/- What functions of the program come to, on trees. No condition but those that the theorems name. -/
import Derived.Test.YtjihjjbieeofdaaPO3
namespace Go.Proofs.Ytjihjjbieeofdaa.T
set_option linter.unusedSimpArgs false
set_option linter.unusedVariables false
open Go
set_option linter.unusedVariables false
set_option maxHeartbeats 2000000
/-- A matrix: r rows, c columns. -/
abbrev matA (o : Option Nat) (nl : Option Bool) (r c : Int) (d : List Int) : AV := .agg [.i .i64 r, .i .i64 c, .sl o nl 1 false (ints .i32 d)]
structure Mat (r c : Nat) (d : List Int) : Prop where
  r0 : 1 ≤ r
  r1 : r ≤ 128
  c0 : 1 ≤ c
  c1 : c ≤ 128
  len : d.length = r * c
  i32 : I32s d
def chk (r c : Int) (d : List Int) : Int := if r < 1 ∨ c < 1 then 1 else if r > 128 ∨ c > 128 then 2 else if (d.length : Int) ≠ r * c then 6 else 0
theorem chk_ok {r c : Nat} {d : List Int} (h : Mat r c d) : chk r c d = 0 := by
  obtain ⟨h1, h2, h3, h4, h5, h6⟩ := h
  unfold chk
  rw [if_neg (by omega), if_neg (by omega), if_neg (by rw [h5]; simp)]
def eChk : Env := ⟨tbl, [], [], [], [(0, [1, 2999, 2000, 2001, 2002]), (1, [1, 10, 2999, 2000, 2001, 2002]), (2, [2]), (3, [1, 18, 2999, 2000, 2001, 2002]), (4, [2]), (5, [27]), (6, [2]), (7, [2])]⟩
theorem check_ok {nl : Option Bool} {r c : Int} {d : List Int} : Impl Try.prog 85 [matA none nl r c d] (.i .i64 (chk r c d)) := by
  refine impl_of (fn := Try.f85) tbl_ok (by kernel_rfl) (by kernel_rfl) rfl ⟨by simp [Try.f85], by decide⟩ rfl fun W0 => ?_
  repeat' first
    | apply WP.seq
    | (apply WP.region (E := eChk) mixed tbl_ok; conv => whnf)
    | (apply WP.cond; conv => whnf)
    | (apply WP.skip; conv => whnf)
    | (apply WP.ret; conv => whnf)
    | (apply reg_and; (· kernel_rfl); conv => whnf)
    | (apply ex_ilen; conv => whnf)
    | (apply ex_mul; (· omega); (· omega); (· omega); (· omega); intro m hm hm1 hm2; conv => whnf)
    | (apply ex_eq; conv => whnf)
    | ((with_reducible apply gd_t); conv => whnf)
    | ((with_reducible apply gd_f); conv => whnf)
    | (apply gd_br)
    | (apply And.intro; (· first | with_reducible rfl | exact trivial | exact Or.inl ⟨rfl, rfl⟩ | exact Or.inr rfl | decide | omega | (apply Nat.le_of_ble_eq_true; rfl) | (dsimp only; omega) | (simp only [ints_len, gl_len, mp_len, List.length_cons, List.length_nil, List.length_drop, List.length_take]; omega)); conv => whnf)
    | apply br_not
    | (apply br_t; conv => whnf)
    | (apply br_dec <;> intro hbr <;> (first | rw [decide_eq_true hbr] | rw [decide_eq_false hbr] | skip) <;> conv => whnf)
    | fail
  all_goals unfold chk
  all_goals subst_vars
  all_goals repeat' split
  all_goals first | rfl | omega
theorem check0_ok {nl : Option Bool} {r c : Nat} {d : List Int} (h : Mat r c d) : Impl Try.prog 85 [matA none nl r c d] (.i .i64 0) := by
  have := check_ok (nl := nl) (r := r) (c := c) (d := d)
  rwa [chk_ok h] at this
theorem Mat.at_ {r c : Nat} {d : List Int} (h : Mat r c d) {i j : Nat} (hi : i < r) (hj : j < c) : i * c + j < d.length := by
  rw [h.len]
  calc i * c + j < i * c + c := by omega
    _ = (i + 1) * c := by rw [Nat.add_mul, Nat.one_mul]
    _ ≤ r * c := Nat.mul_le_mul_right _ hi
theorem Mat.small {r c : Nat} {d : List Int} (h : Mat r c d) : d.length ≤ 16384 := by
  rw [h.len]; exact Nat.mul_le_mul h.r1 h.c1
theorem Mat.upto {r c : Nat} {d : List Int} (h : Mat r c d) {i : Nat} (hi : i < r) : (i + 1) * c ≤ d.length ∧ i * c ≤ (i + 1) * c := ⟨by rw [h.len]; exact Nat.mul_le_mul_right _ hi, Nat.mul_le_mul_right _ (by omega)⟩
def eRow : Env := ⟨tbl, [], [], [], [(0, [1, 2, 3999, 3000, 3001, 3002]), (1, [1, 2, 6, 3999, 3000, 3001, 3002]), (2, [1, 2, 6, 10, 3999, 3000, 3001, 3002]), (3, [4, 5]), (4, [1, 2, 19, 3999, 3000, 3001, 3002]), (5, [4, 5]), (6, [4, 5])]⟩
theorem row_ok {nl : Option Bool} {r c : Nat} {d : List Int} (h : Mat r c d) {i : Nat} (hi : i < r) : Impl Try.prog 64 [matA none nl r c d, .i .i64 i] (.tup [rowA (some 0) (sRow c d i), .i .i64 0]) := by
  have h1 := h.c1
  have h2 := h.r1
  have hs := h.small
  obtain ⟨hle, hle2⟩ := h.upto hi
  refine impl_of (fn := Try.f64) tbl_ok (by kernel_rfl) (by kernel_rfl) rfl ⟨by simp [Try.f64], by decide⟩ rfl fun W0 => ?_
  repeat' first
    | apply WP.seq
    | (apply WP.region (E := eRow) mixed tbl_ok; conv => whnf)
    | (apply WP.cond; conv => whnf)
    | (apply WP.skip; conv => whnf)
    | (apply WP.ret; conv => whnf)
    | (apply reg_and; (· kernel_rfl); conv => whnf)
    | (apply ex_and; (· with_reducible exact (check0_ok h)); conv => whnf)
    | (apply ex_muln; (· omega); conv => whnf)
    | (apply ex_muln1; (· omega); conv => whnf)
    | (apply ex_i64; (· omega); conv => whnf)
    | (apply ex_eq; conv => whnf)
    | (apply gd_br)
    | (apply nodup_and; (· exact of_decide_eq_true (by kernel_rfl)); conv => whnf)
    | (apply And.intro; (· first | with_reducible rfl | exact trivial | exact Or.inl ⟨rfl, rfl⟩ | exact Or.inr rfl | decide | omega | (apply Nat.le_of_ble_eq_true; rfl) | (dsimp only; omega) | (simp only [ints_len, gl_len, mp_len, List.length_cons, List.length_nil, List.length_drop, List.length_take]; omega)); conv => whnf)
    | apply br_not
    | (apply br_t; conv => whnf)
    | (apply br_f; conv => whnf)
    | (apply br_no; (· omega); conv => whnf)
    | apply True.intro
    | (apply Or.inl; with_reducible rfl)
    | rw [ints_cut]
    | (apply And.intro <;> conv => whnf)
    | fail
  rw [Int.toNat_natCast, Int.toNat_natCast, List.nil_append, cut_row hle]
  repeat' first
    | (apply or_row; (· rfl); (· rfl); rfl)
    | fail
def eApply : Env := ⟨tbl, [], [], [], [(0, [1, 2, 3999, 3000, 3001, 3002]), (1, [1, 2, 6, 3999, 3000, 3001, 3002]), (2, [1, 2, 6, 14, 3999, 3000, 3001, 3002]), (3, [4, 5]), (4, [1, 2, 20, 3999, 3000, 3001, 3002]), (5, [4, 5]), (6, [1, 2, 7, 3999, 3000, 3001, 3002]), (7, [1, 2, 7, 22, 23, 3999, 3000, 3001, 3002]), (8, [1, 2, 7, 22, 23, 24, 3999, 3000, 3001, 3002]), (9, [1, 2, 7, 8, 22, 23, 3999, 3000, 3001, 3002]), (10, [1, 2, 7, 9, 22, 23, 3999, 3000, 3001, 3002]), (11, [1, 2, 7, 22, 23, 3999, 3000, 3001, 3002]), (12, [1, 2, 7, 22, 23, 3999, 3000, 3001, 3002]), (13, [4, 5])]⟩
theorem apply_ok {nl nv : Option Bool} {r c : Nat} {d v : List Int} (h : Mat r c d) (hv : v.length = c) (hw : I32s v) : Impl Try.prog 89 [matA none nl r c d, .sl none nv 1 false (ints .i32 v)] (.tup [rowA (some 0) (sApply r c d v), .i .i64 0]) := by
  have h1 := h.c1
  have h2 := h.r1
  have hs := h.small
  have hd := h.i32
  refine impl_of (fn := Try.f89) tbl_ok (by kernel_rfl) (by kernel_rfl) rfl ⟨by simp [Try.f89], by decide⟩ rfl fun W0 => ?_
  repeat' first
    | apply WP.seq
    | (apply WP.region (E := eApply) mixed tbl_ok; conv => whnf)
    | (apply WP.cond; conv => whnf)
    | (apply WP.skip; conv => whnf)
    | apply WP.block
    | (apply reg_and; (· kernel_rfl); conv => whnf)
    | (apply ex_and; (· with_reducible exact (check0_ok h)); conv => whnf)
    | (apply ex_ilen; conv => whnf)
    | (apply ex_eq; conv => whnf)
    | (apply And.intro; (· first | with_reducible rfl | exact trivial | exact Or.inl ⟨rfl, rfl⟩ | exact Or.inr rfl | decide | omega | (apply Nat.le_of_ble_eq_true; rfl) | (dsimp only; omega) | (simp only [ints_len, gl_len, mp_len, List.length_cons, List.length_nil, List.length_drop, List.length_take]; omega)); conv => whnf)
    | apply br_not
    | (apply br_t; conv => whnf)
    | (apply br_yes; (· omega); conv => whnf)
    | fail
  refine WP.loopM [7, 23, 8, 9, 10, 24, 26] (fun i : Nat => [(7, .sl (some 0) none 1 false (ints .i32 (mp i fun i => sDot (sRow c d i) v))), (23, .i .i64 i)]) (fun i => i ≤ r) (fun i => r - i) 0 ?_
  conv => whnf
  refine And.intro (And.intro ?_ ?_) (fun i hi => ?_)
  · first | omega | trivial | skip
  · conv => whnf
    repeat' first
      | apply True.intro
      | (apply ptr_and; (· kernel_rfl); conv => whnf)
      | omega
      | (apply Or.inr; rfl)
      | (apply Or.inl; rfl)
      | (apply or_row; (· rfl); (· rfl); rfl)
      | (apply Or.inr; apply And.intro; (· rfl); rfl)
      | (apply And.intro <;> conv => whnf)
      | fail
  conv => whnf
  have hu : i < r → (i + 1) * c ≤ d.length ∧ i * c ≤ (i + 1) * c := fun hi => h.upto hi
  have hc : i < r → (d.take ((i + 1) * c)).drop (i * c) = sRow c d i := fun hi => cut_row (h.upto hi).1
  have hb : i < r → i * c ≤ 16384 ∧ (i + 1) * c ≤ 16384 := fun hi => by have := h.upto hi; omega
  repeat' first
    | apply WP.seq
    | (apply WP.region (E := eApply) mixed tbl_ok; conv => whnf)
    | (apply WP.cond; conv => whnf)
    | (apply WP.skip; conv => whnf)
    | (apply WP.ret; conv => whnf)
    | (apply WP.exit; conv => whnf)
    | apply WP.block
    | (apply reg_and; (· kernel_rfl); conv => whnf)
    | (apply ex_and; (· with_reducible exact (by rw [Int.toNat_natCast, Int.toNat_natCast, hc (by omega)]; exact dot_ok (by rw [sRow_len]; omega) (by rw [sRow_len]; omega) (sRow_i32 hd) hw)); conv => whnf)
    | (apply ex_muln; (· omega); conv => whnf)
    | (apply ex_muln1; (· omega); conv => whnf)
    | (apply ex_i64; (· omega); conv => whnf)
    | (apply ex_eq; conv => whnf)
    | (apply nodup_and; (· exact of_decide_eq_true (by kernel_rfl)); conv => whnf)
    | (apply And.intro; (· first | with_reducible rfl | exact trivial | exact Or.inl ⟨rfl, rfl⟩ | exact Or.inr rfl | decide | omega | (apply Nat.le_of_ble_eq_true; rfl) | (dsimp only; omega) | (simp only [ints_len, gl_len, mp_len, List.length_cons, List.length_nil, List.length_drop, List.length_take]; omega)); conv => whnf)
    | (apply br_dec <;> intro hbr <;> (first | rw [decide_eq_true hbr] | rw [decide_eq_false hbr] | skip) <;> conv => whnf)
    | apply True.intro
    | rw [ints_cut]
    | (apply And.intro <;> conv => whnf)
    | fail
  · refine Exists.intro (i + 1) (And.intro (And.intro ?_ ?_) ?_)
    · first | omega | skip
    · first | omega | skip
    conv => whnf
    repeat' first
      | apply True.intro
      | (apply ptr_and; (· kernel_rfl); conv => whnf)
      | omega
      | (apply Or.inr; rfl)
      | (apply Or.inl; rfl)
      | (apply or_row; (· rfl); (· rfl); rfl)
      | (apply or_row; (· rfl); (· rfl); apply ints_mp; subst_vars; rfl)
      | (apply And.intro <;> conv => whnf)
      | fail
  · have e : i = r := by omega
    subst e
    repeat' first
      | (apply or_row; (· rfl); (· rfl); rfl)
      | fail
end Go.Proofs.Ytjihjjbieeofdaa.T
namespace Go.Proofs.Ytjihjjbieeofdaa.T
set_option linter.unusedSimpArgs false
set_option linter.unusedVariables false
open Go
set_option linter.unusedVariables false
set_option maxHeartbeats 2000000
/-! the document's root -/
/-! how many bits -/
def lenTab : ByteArray := ⟨#[0, 1, 2, 2, 3, 3, 3, 3, 4, 4, 4, 4, 4, 4, 4, 4, 5, 5, 5, 5, 5, 5, 5, 5, 5, 5, 5, 5, 5, 5, 5, 5, 6, 6, 6, 6, 6, 6, 6, 6, 6, 6, 6, 6, 6, 6, 6, 6, 6, 6, 6, 6, 6, 6, 6, 6, 6, 6, 6, 6, 6, 6, 6, 6, 7, 7, 7, 7, 7, 7, 7, 7, 7, 7, 7, 7, 7, 7, 7, 7, 7, 7, 7, 7, 7, 7, 7, 7, 7, 7, 7, 7, 7, 7, 7, 7, 7, 7, 7, 7, 7, 7, 7, 7, 7, 7, 7, 7, 7, 7, 7, 7, 7, 7, 7, 7, 7, 7, 7, 7, 7, 7, 7, 7, 7, 7, 7, 7, 8, 8, 8, 8, 8, 8, 8, 8, 8, 8, 8, 8, 8, 8, 8, 8, 8, 8, 8, 8, 8, 8, 8, 8, 8, 8, 8, 8, 8, 8, 8, 8, 8, 8, 8, 8, 8, 8, 8, 8, 8, 8, 8, 8, 8, 8, 8, 8, 8, 8, 8, 8, 8, 8, 8, 8, 8, 8, 8, 8, 8, 8, 8, 8, 8, 8, 8, 8, 8, 8, 8, 8, 8, 8, 8, 8, 8, 8, 8, 8, 8, 8, 8, 8, 8, 8, 8, 8, 8, 8, 8, 8, 8, 8, 8, 8, 8, 8, 8, 8, 8, 8, 8, 8, 8, 8, 8, 8, 8, 8, 8, 8, 8, 8, 8, 8, 8, 8, 8, 8, 8, 8, 8, 8, 8, 8, 8, 8]⟩
def tabL (n : Nat) : Nat := (lenTab.data.getD n 0).toNat
theorem tab_ok : ∀ n : _root_.Fin 256, lenTab[n.val]? = some (lenTab.data.getD n.val 0) ∧ n.val < 2 ^ (tabL n.val) ∧ tabL n.val ≤ 8 := by decide +kernel
/-- How many bits a number below 2^64 has. -/
def len8 (x : Int) : Int := (tabL x.toNat : Nat)
def len16 (x : Int) : Int := if x ≥ 256 then 8 + len8 (x / 2 ^ 8) else len8 x
def len32 (x : Int) : Int := if x ≥ 65536 then 16 + len16 (x / 2 ^ 16) else len16 x
def len64 (x : Int) : Int := if x ≥ 4294967296 then 32 + len32 (x / 2 ^ 32) else len32 x
theorem ex_tab {n : Int} {p : AV → Prop} (h : 0 ≤ n ∧ n < 256) (hp : ∀ y, y = len8 n → 0 ≤ y → y ≤ 8 → p (.i .u8 y)) : ∃ e, (∃ b, lenTab[n.toNat]? = some b ∧ e = .i .u8 (b.toNat : Int)) ∧ p e :=
  ⟨_, ⟨_, (tab_ok ⟨n.toNat, by omega⟩).1, rfl⟩, hp _ rfl (Int.natCast_nonneg _) (Int.ofNat_le.2 (tab_ok ⟨n.toNat, by omega⟩).2.2)⟩
theorem len8_in {x : Int} (h : 0 ≤ x ∧ x < 256) : ∃ L : Nat, len8 x = L ∧ L ≤ 8 ∧ x < 2 ^ L := by
  obtain ⟨h1, h2, h3⟩ := tab_ok ⟨x.toNat, by omega⟩
  refine ⟨tabL x.toNat, rfl, h3, ?_⟩
  have h4 : ((x.toNat : Nat) : Int) < ((2 ^ (tabL x.toNat) : Nat) : Int) := Int.ofNat_lt.2 h2
  rw [Int.natCast_pow] at h4
  have e : ((x.toNat : Nat) : Int) = x := by omega
  rw [e] at h4
  exact h4
theorem len_up {x c : Int} {m L : Nat} (hc : c = 2 ^ m) (h : x / c < 2 ^ L) : x < 2 ^ (m + L) := by
  have hc0 : 0 < c := by rw [hc]; exact Int.pow_pos (by decide)
  have h1 : x < (x / c + 1) * c := Int.lt_ediv_add_one_mul_self x hc0
  have h2 : (x / c + 1) * c ≤ 2 ^ L * c := Int.mul_le_mul_of_nonneg_right (by omega) (by omega)
  rw [Int.pow_add, Int.mul_comm, ← hc]
  omega
theorem len16_in {x : Int} (h : 0 ≤ x ∧ x < 65536) : ∃ L : Nat, len16 x = L ∧ L ≤ 16 ∧ x < 2 ^ L := by
  unfold len16
  split
  · obtain ⟨L, h1, h2, h3⟩ := len8_in (x := x / 2 ^ 8) (by omega)
    exact ⟨8 + L, by rw [h1]; omega, by omega, len_up rfl h3⟩
  · obtain ⟨L, h1, h2, h3⟩ := len8_in (x := x) (by omega)
    exact ⟨L, h1, by omega, h3⟩
theorem len32_in {x : Int} (h : 0 ≤ x ∧ x < 4294967296) : ∃ L : Nat, len32 x = L ∧ L ≤ 32 ∧ x < 2 ^ L := by
  unfold len32
  split
  · obtain ⟨L, h1, h2, h3⟩ := len16_in (x := x / 2 ^ 16) (by omega)
    exact ⟨16 + L, by rw [h1]; omega, by omega, len_up rfl h3⟩
  · obtain ⟨L, h1, h2, h3⟩ := len16_in (x := x) (by omega)
    exact ⟨L, h1, by omega, h3⟩
theorem len64_in {x : Int} (h : 0 ≤ x ∧ x ≤ 281474976710656) : ∃ L : Nat, len64 x = L ∧ L ≤ 64 ∧ x < 2 ^ L := by
  unfold len64
  split
  · obtain ⟨L, h1, h2, h3⟩ := len32_in (x := x / 2 ^ 32) (by omega)
    exact ⟨32 + L, by rw [h1]; omega, by omega, len_up rfl h3⟩
  · obtain ⟨L, h1, h2, h3⟩ := len32_in (x := x) (by omega)
    exact ⟨L, h1, by omega, h3⟩
set_option maxRecDepth 100000
def eLen : Env := ⟨tbl, [], [], [], [(0, [0, 2]), (1, [0, 2, 4]), (2, [0]), (3, [0, 2]), (4, [0, 2, 8]), (5, [0, 2]), (6, [0, 2]), (7, [0, 2, 14]), (8, [0, 2]), (9, [0, 2]), (10, [2])]⟩
theorem len_ok {x : Int} (h0 : 0 ≤ x) (h1 : x ≤ 281474976710656) : Impl Try.prog 132 [.i .u64 x] (.i .i64 (len64 x)) := by
  refine impl_of (fn := Try.f132) tbl_ok (by kernel_rfl) (by kernel_rfl) rfl ⟨by simp [Try.f132], by decide⟩ rfl fun W0 => ?_
  repeat' first
    | apply WP.seq
    | (apply WP.region (E := eLen) mixed tbl_ok; conv => whnf)
    | (apply WP.cond; conv => whnf)
    | (apply WP.skip; conv => whnf)
    | (apply WP.ret; conv => whnf)
    | (apply ex_shr 32; (· rfl); conv => whnf)
    | (apply ex_shr 16; (· rfl); conv => whnf)
    | (apply ex_shr 8; (· rfl); conv => whnf)
    | (apply ex_tab; (· omega); intro y hy hy1 hy2; conv => whnf)
    | (apply reg_and; (· kernel_rfl); conv => whnf)
    | (apply ex_i64; (· omega); conv => whnf)
    | (apply ex_u8; (· omega); conv => whnf)
    | (apply ex_eq; conv => whnf)
    | (apply And.intro; (· first | with_reducible rfl | exact trivial | exact Or.inl ⟨rfl, rfl⟩ | exact Or.inr rfl | decide | omega | (apply Nat.le_of_ble_eq_true; rfl) | (dsimp only; omega) | (simp only [ints_len, gl_len, mp_len, List.length_cons, List.length_nil, List.length_drop, List.length_take]; omega)); conv => whnf)
    | (apply br_no; (· omega); conv => whnf)
    | (apply br_dec <;> intro hbr <;> (first | rw [decide_eq_true hbr] | rw [decide_eq_false hbr] | skip) <;> conv => whnf)
    | fail
  all_goals subst_vars
  all_goals unfold len64 len32 len16
  all_goals repeat' split
  all_goals first | omega | rfl
/-! the program's root -/
theorem newton_ge {r q x : Int} (hr : 0 < r) (hq : 0 ≤ q) (hx : x < (q + 1) * r) : x < ((r + q) / 2 + 1) * ((r + q) / 2 + 1) := by
  obtain ⟨n, hn⟩ : ∃ n, n = (r + q) / 2 := ⟨_, rfl⟩
  rw [← hn]
  have h1 : r + q + 1 ≤ 2 * (n + 1) := by omega
  have h2 : (r + q + 1) * (r + q + 1) ≤ (2 * (n + 1)) * (2 * (n + 1)) := Int.mul_le_mul h1 h1 (by omega) (by omega)
  have h3 : 0 ≤ (r - (q + 1)) * (r - (q + 1)) := by
    rcases Int.le_total 0 (r - (q + 1)) with h | h
    · exact Int.mul_nonneg h h
    · exact Int.mul_nonneg_of_nonpos_of_nonpos h h
  have h4 : (r + q + 1) * (r + q + 1) = 4 * ((q + 1) * r) + (r - (q + 1)) * (r - (q + 1)) := by grind
  have h5 : (2 * (n + 1)) * (2 * (n + 1)) = 4 * ((n + 1) * (n + 1)) := by grind
  omega
theorem root_start {x : Int} {L : Nat} (hx : x < 2 ^ L) : x < ((2 : Int) ^ ((L + 1) / 2) + 1) * (2 ^ ((L + 1) / 2) + 1) := by
  generalize hs : (L + 1) / 2 = s
  have hp : (0 : Int) < 2 ^ s := Int.pow_pos (by decide)
  have q1 : (2 : Int) ^ L ≤ 2 ^ s * 2 ^ s := by
    rw [← Int.pow_add]
    have := Nat.pow_le_pow_right (n := 2) (by decide) (show L ≤ s + s by omega)
    exact_mod_cast this
  have q2 : (2 : Int) ^ s * 2 ^ s ≤ (2 ^ s + 1) * (2 ^ s + 1) := Int.mul_le_mul (by omega) (by omega) (by omega) (by omega)
  omega
def eRoot : Env := ⟨tbl, [], [], [], [(0, [0]), (1, [0, 6]), (2, [2]), (3, [0, 3]), (4, [0, 3, 4]), (5, [0, 3, 4, 20]), (6, [0, 3]), (7, [2])]⟩
theorem root_ok {x : Int} (h0 : 1 ≤ x) (h1 : x ≤ 281474976710656) : Impl Try.prog 122 [.i .u64 x] (.i .u64 (sRoot x)) := by
  obtain ⟨L, hL, hL2, hx⟩ := len64_in (x := x) ⟨by omega, h1⟩
  have hst := root_start hx
  have hp : (0 : Int) < 2 ^ ((L + 1) / 2) := Int.pow_pos (by decide)
  have hp2 : (2 : Int) ^ ((L + 1) / 2) ≤ 4294967296 := by
    have h := Int.ofNat_le.2 (Nat.pow_le_pow_right (n := 2) (by decide) (show (L + 1) / 2 ≤ 32 by omega))
    rw [Int.natCast_pow] at h
    exact h
  have hlen := len_ok (x := x) (by omega) h1
  rw [hL] at hlen
  have hsh : RowKit.Hid (1 * (2 : Int) ^ (min ((((L : Nat) : Int) + 1) / 2).toNat 64) = 2 ^ ((L + 1) / 2)) := by
    show 1 * (2 : Int) ^ (min ((((L : Nat) : Int) + 1) / 2).toNat 64) = 2 ^ ((L + 1) / 2)
    rw [Int.one_mul, show ((((L : Nat) : Int) + 1) / 2).toNat = (L + 1) / 2 by omega, Nat.min_eq_left (by omega)]
  refine impl_of (fn := Try.f122) tbl_ok (by kernel_rfl) (by kernel_rfl) rfl ⟨by simp [Try.f122], by decide⟩ rfl fun W0 => ?_
  have hr2 : 0 ≤ (2 : Int) ^ ((L + 1) / 2) ∧ (2 : Int) ^ ((L + 1) / 2) ≤ 18446744073709551615 := ⟨by omega, by omega⟩
  repeat' first
    | apply WP.seq
    | (apply WP.region (E := eRoot) mixed tbl_ok; conv => whnf)
    | (apply WP.cond; conv => whnf)
    | (apply WP.skip; conv => whnf)
    | apply WP.block
    | (apply ex_asu hsh.out hr2; conv => whnf)
    | (apply reg_and; (· kernel_rfl); conv => whnf)
    | (apply ex_and; (· with_reducible exact hlen); conv => whnf)
    | (apply ex_i64; (· omega); conv => whnf)
    | (apply ex_quo; (· omega); conv => whnf)
    | (apply ex_eq; conv => whnf)
    | (apply And.intro; (· first | with_reducible rfl | exact trivial | exact Or.inl ⟨rfl, rfl⟩ | exact Or.inr rfl | decide | omega | (apply Nat.le_of_ble_eq_true; rfl) | (dsimp only; omega) | (simp only [ints_len, gl_len, mp_len, List.length_cons, List.length_nil, List.length_drop, List.length_take]; omega)); conv => whnf)
    | (apply br_no; (· omega); conv => whnf)
    | fail
  clear hsh
  generalize (2 : Int) ^ ((L + 1) / 2) = b at *
  refine WP.loopM [3, 4, 20] (fun r : Int => [(3, .i .u64 r)]) (fun r => 0 < r ∧ r ≤ 4294967296 ∧ x < (r + 1) * (r + 1)) (fun r => r.toNat) b ?_
  conv => whnf
  refine And.intro (And.intro ?_ ?_) (fun r hr => ?_)
  · first | omega | trivial | skip
  · conv => whnf
    repeat' first
      | apply True.intro
      | (apply ptr_and; (· kernel_rfl); conv => whnf)
      | (apply And.intro <;> conv => whnf)
      | fail
  conv => whnf
  obtain ⟨r1, r2, r3⟩ := hr
  have q0 : 0 ≤ x / r := Int.ediv_nonneg (by omega) (by omega)
  have q1 : x / r ≤ x := Int.ediv_le_self _ (by omega)
  have q2 : x / r * r ≤ x := Int.ediv_mul_le x (by omega)
  have q3 : x < (x / r + 1) * r := Int.lt_ediv_add_one_mul_self x r1
  have hn := newton_ge r1 q0 q3
  repeat' first
    | apply WP.seq
    | (apply WP.region (E := eRoot) mixed tbl_ok; conv => whnf)
    | (apply WP.cond; conv => whnf)
    | (apply WP.skip; conv => whnf)
    | (apply WP.ret; conv => whnf)
    | (apply WP.exit; conv => whnf)
    | apply WP.block
    | (apply reg_and; (· kernel_rfl); conv => whnf)
    | (apply ex_u64; (· omega); conv => whnf)
    | (apply ex_quou; (· omega); conv => whnf)
    | (apply ex_eq; conv => whnf)
    | (apply And.intro; (· first | with_reducible rfl | exact trivial | exact Or.inl ⟨rfl, rfl⟩ | exact Or.inr rfl | decide | omega | (apply Nat.le_of_ble_eq_true; rfl) | (dsimp only; omega) | (simp only [ints_len, gl_len, mp_len, List.length_cons, List.length_nil, List.length_drop, List.length_take]; omega)); conv => whnf)
    | (apply br_dec <;> intro hbr <;> (first | rw [decide_eq_true hbr] | rw [decide_eq_false hbr] | skip) <;> conv => whnf)
    | fail
  · have hc := hbr
    refine (sRoot_eq ⟨by omega, ?_, r3⟩ (by omega)).symm
    have : r * r ≤ x / r * r := Int.mul_le_mul_of_nonneg_right (by omega) (by omega)
    omega
  · have hc := hbr
    have hpos : 0 < (r + x / r) / 2 := by
      by_cases hz : 0 < (r + x / r) / 2
      · exact hz
      · have e : (r + x / r) / 2 = 0 := by omega
        rw [e] at hn
        omega
    refine Exists.intro ((r + x / r) / 2) (And.intro (And.intro ⟨hpos, by omega, hn⟩ (by omega)) ?_)
    conv => whnf
    repeat' first
      | apply True.intro
      | (apply ptr_and; (· kernel_rfl); conv => whnf)
      | (apply And.intro <;> conv => whnf)
      | fail
def eInv : Env := ⟨tbl, [], [], [], [(0, [0]), (1, [0, 4]), (2, [2]), (3, [2])]⟩
theorem inv_ok {x : Int} (h : I32 x) : Impl Try.prog 102 [.i .i32 x] (.i .i32 (sInv x)) := by
  obtain ⟨h1, h2⟩ := h
  have ha : 0 < x → _ := fun hx => inv_arg (x := x) (by omega) h2
  have hr : 0 < x → _ := fun hx => sRoot_le (x := 281474976710656 / x) (by have := ha hx; omega) (by have := ha hx; omega)
  refine impl_of (fn := Try.f102) tbl_ok (by kernel_rfl) (by kernel_rfl) rfl ⟨by simp [Try.f102], by decide⟩ rfl fun W0 => ?_
  repeat' first
    | apply WP.seq
    | (apply WP.region (E := eInv) mixed tbl_ok; conv => whnf)
    | (apply WP.cond; conv => whnf)
    | (apply WP.skip; conv => whnf)
    | (apply WP.ret; conv => whnf)
    | (apply reg_and; (· kernel_rfl); conv => whnf)
    | (apply ex_and; (· with_reducible exact (root_ok (by omega) (by omega))); conv => whnf)
    | (apply ex_i32; (· omega); conv => whnf)
    | (apply ex_u64; (· omega); conv => whnf)
    | (apply ex_quou; (· omega); conv => whnf)
    | (apply ex_eq; conv => whnf)
    | (apply And.intro; (· first | with_reducible rfl | exact trivial | exact Or.inl ⟨rfl, rfl⟩ | exact Or.inr rfl | decide | omega | (apply Nat.le_of_ble_eq_true; rfl) | (dsimp only; omega) | (simp only [ints_len, gl_len, mp_len, List.length_cons, List.length_nil, List.length_drop, List.length_take]; omega)); conv => whnf)
    | (apply br_dec <;> intro hbr <;> (first | rw [decide_eq_true hbr] | rw [decide_eq_false hbr] | skip) <;> conv => whnf)
    | fail
  all_goals unfold sInv
  all_goals split
  all_goals first | rfl | omega
end Go.Proofs.Ytjihjjbieeofdaa.T
namespace Go.Proofs.Ytjihjjbieeofdaa.T
set_option linter.unusedSimpArgs false
set_option linter.unusedVariables false
open Go
set_option linter.unusedVariables false
set_option maxHeartbeats 2000000
set_option maxRecDepth 100000
end Go.Proofs.Ytjihjjbieeofdaa.T

