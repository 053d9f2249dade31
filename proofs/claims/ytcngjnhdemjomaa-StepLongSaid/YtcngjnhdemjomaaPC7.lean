/- What functions of the program come to, on trees. No condition but those that the theorems name. -/
import Derived.WalkKit
import Derived.ProofKit
import Derived.OpenShut
import Derived.ShutString
import Derived.ChangeOld
import Derived.Below
import Derived.SizedLaws
import Derived.Deep.Slices
import Derived.Test.YtcngjnhdemjomaaPC6
namespace Go.Proofs.Ytcngjnhdemjomaa.T
set_option linter.unusedSimpArgs false
set_option linter.unusedVariables false
open Go
set_option linter.unusedVariables false
set_option maxHeartbeats 4000000
set_option maxRecDepth 100000
def xorU (a b : Int) : Int := IntKind.u64.wrap ((BitVec.ofInt IntKind.u64.bits a ^^^ BitVec.ofInt IntKind.u64.bits b).toNat : Nat)
def g1 (x : Int) : Int := IntKind.u64.wrap (xorU x (x / 1073741824) * 13787848793156543929)
def g2 (x : Int) : Int := IntKind.u64.wrap (xorU x (x / 134217728) * 10723151780598845931)
def g3 (x : Int) : Int := xorU x (x / 2147483648)
def mixU (x : Int) : Int := g3 (g2 (g1 x))
theorem u64_in (x : Int) : 0 ≤ IntKind.u64.wrap x ∧ IntKind.u64.wrap x ≤ 18446744073709551615 := by rw [IntKind.wrap_u64]; omega
def rndV (y most : Int) : Int := y / 4294967296 * (2 * most) / 4294967296 - most
def stN (seed : Int) (n : Nat) : Int := IntKind.u64.wrap (seed + n * 11400714819323198485)
theorem stN_next (seed : Int) (n : Nat) : IntKind.u64.wrap (stN seed n + 11400714819323198485) = stN seed (n + 1) := by
  unfold stN
  rw [IntKind.wrap_u64, IntKind.wrap_u64, IntKind.wrap_u64]
  omega
def rnd (seed : Int) (n : Nat) (most : Int) : Int := rndV (mixU (stN seed (n + 1))) most
theorem rnd_num {y most : Int} (hy : 0 ≤ y ∧ y ≤ 18446744073709551615) (hm : 0 ≤ most ∧ most ≤ 131072) : 0 ≤ y / 4294967296 * (2 * most) ∧ y / 4294967296 * (2 * most) ≤ 4294967295 * 262144 ∧ 0 ≤ y / 4294967296 * (2 * most) / 4294967296 ∧ y / 4294967296 * (2 * most) / 4294967296 ≤ 262144 := by
  have h1 : 0 ≤ y / 4294967296 := by omega
  have h2 : y / 4294967296 ≤ 4294967295 := by omega
  have h3 : 0 ≤ y / 4294967296 * (2 * most) := Int.mul_nonneg h1 (by omega)
  have h4 : y / 4294967296 * (2 * most) ≤ 4294967295 * 262144 := Int.mul_le_mul h2 (by omega) (by omega) (by omega)
  omega
theorem g3_in (x : Int) : 0 ≤ g3 x ∧ g3 x ≤ 18446744073709551615 := u64_in _
def eNext : Env := ⟨tbl, [], [], [], [(0, [0, 1, 2001999, 2001000]), (1, [0, 1, 2001999, 2001000]), (2, [1, 5, 2001999, 2001000]), (3, [1, 5, 2001999, 2001000]), (4, [1, 5, 2001999, 2001000]), (5, [1, 5, 2001999, 2001000]), (6, [4, 2001999, 2001000])]⟩
theorem next_ok {seed : Int} {n : Nat} {most : Int} (hm : 0 ≤ most ∧ most ≤ 131072) : Impl Try.prog 101 [.tup [.i .u64 (stN seed n)], .i .i32 most] (.tup [.i .i32 (rnd seed n most), .tup [.i .u64 (stN seed (n + 1))]]) := by
  have hy := g3_in (g2 (g1 (stN seed (n + 1))))
  have hr : 0 ≤ g3 (g2 (g1 (stN seed (n + 1)))) / 2 ^ 32 * (2 * most) ∧ g3 (g2 (g1 (stN seed (n + 1)))) / 2 ^ 32 * (2 * most) ≤ 4294967295 * 262144 ∧ 0 ≤ g3 (g2 (g1 (stN seed (n + 1)))) / 2 ^ 32 * (2 * most) / 2 ^ 32 ∧ g3 (g2 (g1 (stN seed (n + 1)))) / 2 ^ 32 * (2 * most) / 2 ^ 32 ≤ 262144 := rnd_num hy hm
  have e : rnd seed n most = g3 (g2 (g1 (stN seed (n + 1)))) / 2 ^ 32 * (2 * most) / 2 ^ 32 - most := rfl
  have e1 : ∀ x, IntKind.u64.wrap (IntKind.u64.wrap ((BitVec.ofInt IntKind.u64.bits x ^^^ BitVec.ofInt IntKind.u64.bits (x / 2 ^ 30)).toNat : Nat) * 13787848793156543929) = g1 x := fun x => rfl
  have e2 : ∀ x, IntKind.u64.wrap (IntKind.u64.wrap ((BitVec.ofInt IntKind.u64.bits x ^^^ BitVec.ofInt IntKind.u64.bits (x / 2 ^ 27)).toNat : Nat) * 10723151780598845931) = g2 x := fun x => rfl
  have e3 : ∀ x, IntKind.u64.wrap ((BitVec.ofInt IntKind.u64.bits x ^^^ BitVec.ofInt IntKind.u64.bits (x / 2 ^ 31)).toNat : Nat) = g3 x := fun x => rfl
  rw [e]
  generalize hY : g3 (g2 (g1 (stN seed (n + 1)))) = Y at *
  refine implP_of (fn := Try.f101) tbl_ok (by kernel_rfl) (by kernel_rfl) rfl ⟨by simp [Try.f101], by decide⟩ ⟨rfl, rfl⟩ fun W0 => ?_
  repeat' first
    | apply WP.seq
    | (apply WP.region (E := eNext) mixed tbl_ok; conv => whnf)
    | (apply WP.ret; conv => whnf)
    | (rw [stN_next]; conv => whnf)
    | (apply ex_shr 30; (· rfl); conv => whnf)
    | (apply ex_shr 27; (· rfl); conv => whnf)
    | (apply ex_shr 31; (· rfl); conv => whnf)
    | (apply ex_shr 32; (· rfl); conv => whnf)
    | (rw [e1]; conv => whnf)
    | (rw [e2]; conv => whnf)
    | (rw [e3, hY]; conv => whnf)
    | (apply reg_and; (· kernel_rfl); conv => whnf)
    | (apply ex_i64; (· omega); conv => whnf)
    | (apply ex_i32; (· omega); conv => whnf)
    | (apply ex_eq; conv => whnf)
    | (apply And.intro; (· first | with_reducible rfl | exact trivial | exact Or.inl ⟨rfl, rfl⟩ | exact Or.inr rfl | decide | omega | (apply Nat.le_of_ble_eq_true; rfl) | (dsimp only; omega) | (simp only [ints_len, gl_len, mp_len, List.length_cons, List.length_nil, List.length_drop, List.length_take]; omega)); conv => whnf)
    | fail
  repeat' first
    | (apply And.intro <;> conv => whnf)
    | (apply Nat.le_of_ble_eq_true; rfl)
    | fail
theorem rnd_in (seed : Int) (n : Nat) {most : Int} (hm : 0 ≤ most ∧ most ≤ 131072) : -131072 ≤ rnd seed n most ∧ rnd seed n most ≤ 262144 := by
  have hr := rnd_num (g3_in (g2 (g1 (stN seed (n + 1))))) hm
  have e : rnd seed n most = g3 (g2 (g1 (stN seed (n + 1)))) / 4294967296 * (2 * most) / 4294967296 - most := rfl
  omega
def sRnds (seed : Int) (a n : Nat) (most more : Int) : List Int := mp n fun i => rnd seed (a + i) most + more
theorem sRnds_len (seed : Int) (a n : Nat) (most more : Int) : (sRnds seed a n most more).length = n := mp_len _ _
theorem sRnds_i32 (seed : Int) (a n : Nat) {most more : Int} (hm : 0 ≤ most ∧ most ≤ 131072) (hm2 : 0 ≤ more ∧ more ≤ 65536) : I32s (sRnds seed a n most more) := mp_i32s fun i _ => by
  have := rnd_in seed (a + i) hm
  exact ⟨by omega, by omega⟩
def eMRow : Env := ⟨tbl, [], [], [], [(0, [0, 1, 2, 2001999, 2001000]), (1, [0, 1, 2, 7, 2001999, 2001000]), (2, [0, 2, 7, 8, 9, 2001999, 2001000]), (3, [0, 2, 7, 8, 9, 10, 2001999, 2001000]), (4, [0, 2, 7, 8, 9, 2001999, 2001000]), (5, [0, 2, 7, 8, 9, 2001999, 2001000]), (6, [6, 2001999, 2001000])]⟩
theorem mrow_ok {seed : Int} {a n : Nat} {most : Int} (hm : 0 ≤ most ∧ most ≤ 131072) (hn : n ≤ 4096) : Impl Try.prog 80 [.tup [.i .u64 (stN seed a)], .i .i64 n, .i .i32 most] (.tup [rowA (some 0) (mp n fun i => rnd seed (a + i) most), .tup [.i .u64 (stN seed (a + n))]]) := by
  refine implP_of (fn := Try.f80) tbl_ok (by kernel_rfl) (by kernel_rfl) rfl ⟨by simp [Try.f80], by decide⟩ ⟨rfl, rfl⟩ fun W0 => ?_
  repeat' first
    | apply WP.seq
    | (apply WP.region (E := eMRow) mixed tbl_ok; conv => whnf)
    | apply WP.block
    | (apply reg_and; (· kernel_rfl); conv => whnf)
    | fail
  refine WP.loopM [7, 9, 10, 2001000] (fun i : Nat => [(7, .sl (some 0) none 1 false (ints .i32 (mp i fun i => rnd seed (a + i) most))), (9, .i .i64 i), (2001000, .i .u64 (stN seed (a + i)))]) (fun i => i ≤ n) (fun i => n - i) 0 ?_
  conv => whnf
  refine And.intro (And.intro ?_ ?_) (fun i hi => ?_)
  · first | omega | trivial | skip
  · conv => whnf
    repeat' first
      | apply True.intro
      | (apply ptr_and; (· kernel_rfl); conv => whnf)
      | omega
      | (apply Or.inl; rfl)
      | (apply Or.inr; apply And.intro; (· rfl); rfl)
      | (apply And.intro <;> conv => whnf)
      | rfl
      | fail
  conv => whnf
  repeat' first
    | apply WP.seq
    | (apply WP.region (E := eMRow) mixed tbl_ok; conv => whnf)
    | (apply WP.cond; conv => whnf)
    | (apply WP.skip; conv => whnf)
    | (apply WP.ret; conv => whnf)
    | (apply WP.exit; conv => whnf)
    | apply WP.block
    | (apply reg_and; (· kernel_rfl); conv => whnf)
    | (apply ex_and; (· with_reducible exact next_ok hm); conv => whnf)
    | (apply ex_i64; (· omega); conv => whnf)
    | (apply ex_eq; conv => whnf)
    | (apply And.intro; (· first | with_reducible rfl | exact trivial | exact Or.inl ⟨rfl, rfl⟩ | exact Or.inr rfl | decide | omega | (apply Nat.le_of_ble_eq_true; rfl) | (dsimp only; omega) | (simp only [ints_len, gl_len, mp_len, List.length_cons, List.length_nil, List.length_drop, List.length_take]; omega)); conv => whnf)
    | (apply br_dec <;> intro hbr <;> (first | rw [decide_eq_true hbr] | rw [decide_eq_false hbr] | skip) <;> conv => whnf)
    | fail
  · refine Exists.intro (i + 1) (And.intro (And.intro ?_ ?_) ?_)
    · first | omega | skip
    · first | omega | skip
    conv => whnf
    repeat' first
      | apply True.intro
      | (apply ptr_and; (· kernel_rfl); conv => whnf)
      | omega
      | (apply Or.inl; rfl)
      | (apply or_row; (· rfl); (· rfl); apply ints_mp; subst_vars; rfl)
      | (apply And.intro <;> conv => whnf)
      | rfl
      | fail
  · have e : i = n := by omega
    subst e
    repeat' first
      | (apply Or.inr; rfl)
      | (apply or_row; (· rfl); (· rfl); rfl)
      | (apply And.intro <;> conv => whnf)
      | (apply Nat.le_of_ble_eq_true; rfl)
      | fail
def eMGains : Env := ⟨tbl, [], [], [], [(0, [0, 1, 2001999, 2001000]), (1, [5, 2001999, 2001000]), (2, [5, 11, 12, 2001999, 2001000]), (3, [5, 11, 12, 13, 2001999, 2001000]), (4, [5, 6, 11, 12, 2001999, 2001000]), (5, [5, 11, 12, 2001999, 2001000]), (6, [5, 11, 12, 2001999, 2001000]), (7, [4, 2001999, 2001000])]⟩
theorem mgains0_ok {seed : Int} {a n : Nat} {G : Nat → Int} (hn : n ≤ 4096) (hb : ∀ i, -131072 ≤ G i ∧ G i ≤ 262144) (hrow : Impl Try.prog 80 [.tup [.i .u64 (stN seed a)], .i .i64 n, .i .i32 16384] (.tup [rowA (some 0) (mp n G), .tup [.i .u64 (stN seed (a + n))]])) : Impl Try.prog 53 [.tup [.i .u64 (stN seed a)], .i .i64 n] (.tup [rowA (some 0) (mp n fun i => G i + 65536), .tup [.i .u64 (stN seed (a + n))]]) := by
  generalize stN seed a = s0 at *
  generalize stN seed (a + n) = s1 at *
  refine implP_of (fn := Try.f53) tbl_ok (by kernel_rfl) (by kernel_rfl) rfl ⟨by simp [Try.f53], by decide⟩ ⟨rfl, rfl⟩ fun W0 => ?_
  repeat' first
    | apply WP.seq
    | (apply WP.region (E := eMGains) mixed tbl_ok; conv => whnf)
    | apply WP.block
    | (apply reg_and; (· kernel_rfl); conv => whnf)
    | (apply ex_and; (· with_reducible exact hrow); conv => whnf)
    | (apply ex_ilen; conv => whnf)
    | fail
  have hml : (mp n G).length = n := mp_len _ _
  have e0 : (mp n fun j => if j < 0 then G j + 65536 else G j) = mp n G := mp_congr fun j hj => by rw [if_neg (by omega)]
  refine WP.loopM [5, 6, 12, 13] (fun i : Nat => [(5, .sl (some 0) none 1 false (ints .i32 (mp n fun j => if j < i then G j + 65536 else G j))), (12, .i .i64 i)]) (fun i => i ≤ n) (fun i => n - i) 0 ?_
  conv => whnf
  refine And.intro (And.intro ?_ ?_) (fun i hi => ?_)
  · omega
  · conv => whnf
    repeat' first
      | apply True.intro
      | (apply ptr_and; (· kernel_rfl); conv => whnf)
      | omega
      | (apply Or.inr; rfl)
      | (apply or_row; (· rfl); (· rfl); rfl)
      | (apply And.intro <;> conv => whnf)
      | fail
  conv => whnf
  clear e0
  have hget : i < n → (mp n fun j => if j < i then G j + 65536 else G j).getD ((i : Int).toNat) 0 = G i := fun hi => by rw [Int.toNat_natCast, mp_get hi, if_neg (by omega)]
  have hlen : (mp n fun j => if j < i then G j + 65536 else G j).length = n := mp_len _ _
  have hb := hb i
  repeat' first
    | apply WP.seq
    | (apply WP.region (E := eMGains) mixed tbl_ok; conv => whnf)
    | (apply WP.cond; conv => whnf)
    | (apply WP.skip; conv => whnf)
    | (apply WP.ret; conv => whnf)
    | (apply WP.exit; conv => whnf)
    | apply WP.block
    | (rw [hget (by omega)]; conv => whnf)
    | (apply reg_and; (· kernel_rfl); conv => whnf)
    | (apply ex_i64; (· omega); conv => whnf)
    | (apply ex_i32; (· omega); conv => whnf)
    | (apply ex_ints; (· omega); conv => whnf)
    | (apply ex_eq; conv => whnf)
    | (apply nd_ints; (· omega); conv => whnf)
    | (apply And.intro; (· first | with_reducible rfl | exact trivial | exact Or.inl ⟨rfl, rfl⟩ | exact Or.inr rfl | decide | omega | (apply Nat.le_of_ble_eq_true; rfl) | (dsimp only; omega) | (simp only [ints_len, gl_len, mp_len, List.length_cons, List.length_nil, List.length_drop, List.length_take]; omega)); conv => whnf)
    | (apply br_dec <;> intro hbr <;> (first | rw [decide_eq_true hbr] | rw [decide_eq_false hbr] | skip) <;> conv => whnf)
    | fail
  · refine Exists.intro (i + 1) (And.intro (And.intro ?_ ?_) ?_)
    · first | omega | skip
    · first | omega | skip
    conv => whnf
    repeat' first
      | apply True.intro
      | (apply ptr_and; (· kernel_rfl); conv => whnf)
      | omega
      | (apply Or.inr; rfl)
      | (apply And.intro <;> conv => whnf)
      | fail
    refine or_row rfl rfl ?_
    rw [Int.toNat_natCast]
    refine ints_put fun j hj => ?_
    by_cases h1 : j = i
    · subst h1; rw [if_pos (by omega), if_pos rfl]
    · rw [if_neg h1]
      by_cases h2 : j < i
      · rw [if_pos h2, if_pos (by omega)]
      · rw [if_neg h2, if_neg (by omega)]
  · have e : i = n := by omega
    subst e
    have e2 : (mp i fun j => if j < i then G j + 65536 else G j) = mp i fun i => G i + 65536 := mp_congr fun j hj => by rw [if_pos hj]
    rw [e2]
    repeat' first
      | (apply Or.inr; rfl)
      | (apply or_row; (· rfl); (· rfl); rfl)
      | (apply And.intro <;> conv => whnf)
      | (apply Nat.le_of_ble_eq_true; rfl)
      | fail
theorem mgains_ok {seed : Int} {a n : Nat} (hn : n ≤ 4096) : Impl Try.prog 53 [.tup [.i .u64 (stN seed a)], .i .i64 n] (.tup [rowA (some 0) (sRnds seed a n 16384 65536), .tup [.i .u64 (stN seed (a + n))]]) :=
  mgains0_ok (G := fun i => rnd seed (a + i) 16384) hn (fun i => rnd_in seed (a + i) ⟨by omega, by omega⟩) (mrow_ok ⟨by omega, by omega⟩ hn)
def eMSide : Env := ⟨tbl, [], [], [], [(0, [0, 1, 2, 3, 8, 2001999, 2001000, 9999, 9000, 9001, 9002]), (1, [8, 2001999, 2001000, 9999, 9000, 9001, 9002])]⟩
theorem mside_ok {seed : Int} {a r c : Nat} {most : Int} (hm : 0 ≤ most ∧ most ≤ 131072) (hr : r ≤ 64) (hc : c ≤ 64) : Impl Try.prog 52 [.tup [.i .u64 (stN seed a)], .i .i64 r, .i .i64 c, .i .i32 most] (.tup [matA (some 0) none r c (mp (r * c) fun i => rnd seed (a + i) most), .tup [.i .u64 (stN seed (a + r * c))]]) := by
  have hrc : r * c ≤ 64 * 64 := Nat.mul_le_mul hr hc
  have hrow := mrow_ok (seed := seed) (a := a) (n := r * c) hm (by omega)
  generalize (mp (r * c) fun i => rnd seed (a + i) most) = R at *
  generalize stN seed a = s0 at *
  generalize stN seed (a + r * c) = s1 at *
  refine implP_of (fn := Try.f52) tbl_ok (by kernel_rfl) (by kernel_rfl) rfl ⟨by simp [Try.f52], by decide⟩ ⟨rfl, rfl⟩ fun W0 => ?_
  repeat' first
    | apply WP.seq
    | (apply WP.region (E := eMSide) mixed tbl_ok; conv => whnf)
    | (apply WP.ret; conv => whnf)
    | (apply reg_and; (· kernel_rfl); conv => whnf)
    | (apply ex_and; (· with_reducible exact hrow); conv => whnf)
    | (apply ex_muln; (· omega); conv => whnf)
    | (apply And.intro; (· first | with_reducible rfl | exact trivial | exact Or.inl ⟨rfl, rfl⟩ | exact Or.inr rfl | decide | omega | (apply Nat.le_of_ble_eq_true; rfl) | (dsimp only; omega) | (simp only [ints_len, gl_len, mp_len, List.length_cons, List.length_nil, List.length_drop, List.length_take]; omega)); conv => whnf)
    | fail
  repeat' first
    | apply True.intro
    | exact Int.NonNeg.mk _
    | (apply Or.inr; rfl)
    | (apply or_row; (· rfl); (· rfl); rfl)
    | (apply And.intro <;> conv => whnf)
    | (apply Nat.le_of_ble_eq_true; rfl)
    | fail
end Go.Proofs.Ytcngjnhdemjomaa.T
namespace Go.Proofs.Ytcngjnhdemjomaa.T
set_option linter.unusedSimpArgs false
set_option linter.unusedVariables false
open Go
set_option linter.unusedVariables false
set_option maxHeartbeats 8000000
set_option maxRecDepth 100000
def sSide (seed : Int) (a r c : Nat) (most : Int) : MatD := ⟨r, c, mp (r * c) fun i => rnd seed (a + i) most⟩
def pB (D H : Nat) : Nat := D + D * D + D * D + D * D + D * D + D + H * D + D * H
def sBlk (seed : Int) (D H a : Nat) : Blk :=
  ⟨sRnds seed a D 16384 65536, sSide seed (a + D) D D 65536, sSide seed (a + D + D * D) D D 65536, sSide seed (a + D + D * D + D * D) D D 65536, sSide seed (a + D + D * D + D * D + D * D) D D 65536,
    sRnds seed (a + D + D * D + D * D + D * D + D * D) D 16384 65536, sSide seed (a + D + D * D + D * D + D * D + D * D + D) H D 65536, sSide seed (a + D + D * D + D * D + D * D + D * D + D + H * D) D H 65536⟩
def sMake (seed : Int) (V D H L : Nat) : Wts :=
  ⟨sSide seed 0 V D 131072, mp L fun l => sBlk seed D H (0 + V * D + l * pB D H), sRnds seed (0 + V * D + L * pB D H) D 16384 65536, sSide seed (0 + V * D + L * pB D H + D) V D 65536⟩
theorem gl_snocB (l : List Blk) (b : Blk) : gl (blkA none) l ++ [blkA none b] = gl (blkA none) (l ++ [b]) := by simp [gl]
def eMake : Env := ⟨tbl, [], [79], [], [(0, [1, 2, 4, 3999, 3000, 3001, 3002, 3003, 3004, 5999, 5000, 5001, 5002, 5003, 5004, 5005, 5006, 5007]), (1, [1, 2, 4, 6, 3999, 3000, 3001, 3002, 3003, 3004, 5999, 5000, 5001, 5002, 5003, 5004, 5005, 5006, 5007]), (2, [1, 2, 4, 6, 15, 3999, 3000, 3001, 3002, 3003, 3004, 5999, 5000, 5001, 5002, 5003, 5004, 5005, 5006, 5007]), (3, [4, 5, 5999, 5000, 5001, 5002, 5003, 5004, 5005, 5006, 5007]), (4, [2, 4, 7, 3999, 3000, 3001, 3002, 3003, 3004, 5999, 5000, 5001, 5002, 5003, 5004, 5005, 5006, 5007, 21999, 21000]), (5, [2, 4, 7, 8, 3999, 3000, 3001, 3002, 3003, 3004, 5999, 5000, 5001, 5002, 5003, 5004, 5005, 5006, 5007, 21999, 21000, 9999, 9000, 9001, 9002, 9003, 9004, 9005, 9006, 9007]), (6, [2, 4, 7, 8, 29, 30, 3999, 3000, 3001, 3002, 3003, 3004, 5999, 5000, 5001, 5002, 5003, 5004, 5005, 5006, 5007, 21999, 21000, 9999, 9000, 9001, 9002, 9003, 9004, 9005, 9006, 9007]), (7, [2, 4, 7, 8, 29, 30, 31, 3999, 3000, 3001, 3002, 3003, 3004, 5999, 5000, 5001, 5002, 5003, 5004, 5005, 5006, 5007, 21999, 21000, 9999, 9000, 9001, 9002, 9003, 9004, 9005, 9006, 9007]), (8, [2, 4, 7, 8, 9, 29, 30, 3999, 3000, 3001, 3002, 3003, 3004, 5999, 5000, 5001, 5002, 5003, 5004, 5005, 5006, 5007, 21999, 21000, 9999, 9000, 9001, 9002, 9003, 9004, 9005, 9006, 9007, 10999, 10000, 10001, 10002, 10003, 10004, 10005, 10006, 10007, 10008, 10009, 10010, 10011, 10012, 10013, 10014, 10015, 10016, 10017, 10018, 10019]), (9, [2, 4, 7, 8, 9, 29, 30, 41, 42, 43, 3999, 3000, 3001, 3002, 3003, 3004, 5999, 5000, 5001, 5002, 5003, 5004, 5005, 5006, 5007, 21999, 21000, 9999, 9000, 9001, 9002, 9003, 9004, 9005, 9006, 9007, 10999, 10000, 10001, 10002, 10003, 10004, 10005, 10006, 10007, 10008, 10009, 10010, 10011, 10012, 10013, 10014, 10015, 10016, 10017, 10018, 10019]), (10, [2, 4, 7, 8, 9, 29, 30, 41, 42, 43, 44, 3999, 3000, 3001, 3002, 3003, 3004, 5999, 5000, 5001, 5002, 5003, 5004, 5005, 5006, 5007, 21999, 21000, 9999, 9000, 9001, 9002, 9003, 9004, 9005, 9006, 9007, 10999, 10000, 10001, 10002, 10003, 10004, 10005, 10006, 10007, 10008, 10009, 10010, 10011, 10012, 10013, 10014, 10015, 10016, 10017, 10018, 10019]), (11, [2, 4, 7, 8, 9, 11, 29, 30, 41, 42, 43, 3999, 3000, 3001, 3002, 3003, 3004, 5999, 5000, 5001, 5002, 5003, 5004, 5005, 5006, 5007, 21999, 21000, 9999, 9000, 9001, 9002, 9003, 9004, 9005, 9006, 9007, 10999, 10000, 10001, 10002, 10003, 10004, 10005, 10006, 10007, 10008, 10009, 10010, 10011, 10012, 10013, 10014, 10015, 10016, 10017, 10018, 10019]), (12, [2, 4, 7, 8, 9, 29, 30, 41, 42, 43, 3999, 3000, 3001, 3002, 3003, 3004, 5999, 5000, 5001, 5002, 5003, 5004, 5005, 5006, 5007, 21999, 21000, 9999, 9000, 9001, 9002, 9003, 9004, 9005, 9006, 9007, 10999, 10000, 10001, 10002, 10003, 10004, 10005, 10006, 10007, 10008, 10009, 10010, 10011, 10012, 10013, 10014, 10015, 10016, 10017, 10018, 10019]), (13, [2, 4, 7, 8, 9, 29, 30, 41, 42, 43, 3999, 3000, 3001, 3002, 3003, 3004, 5999, 5000, 5001, 5002, 5003, 5004, 5005, 5006, 5007, 21999, 21000, 9999, 9000, 9001, 9002, 9003, 9004, 9005, 9006, 9007, 10999, 10000, 10001, 10002, 10003, 10004, 10005, 10006, 10007, 10008, 10009, 10010, 10011, 10012, 10013, 10014, 10015, 10016, 10017, 10018, 10019]), (14, [2, 4, 7, 8, 9, 29, 30, 3999, 3000, 3001, 3002, 3003, 3004, 5999, 5000, 5001, 5002, 5003, 5004, 5005, 5006, 5007, 21999, 21000, 9999, 9000, 9001, 9002, 9003, 9004, 9005, 9006, 9007, 10999, 10000, 10001, 10002, 10003, 10004, 10005, 10006, 10007, 10008, 10009, 10010, 10011, 10012, 10013, 10014, 10015, 10016, 10017, 10018, 10019]), (15, [2, 4, 7, 8, 9, 29, 30, 3999, 3000, 3001, 3002, 3003, 3004, 5999, 5000, 5001, 5002, 5003, 5004, 5005, 5006, 5007, 21999, 21000, 9999, 9000, 9001, 9002, 9003, 9004, 9005, 9006, 9007, 10999, 10000, 10001, 10002, 10003, 10004, 10005, 10006, 10007, 10008, 10009, 10010, 10011, 10012, 10013, 10014, 10015, 10016, 10017, 10018, 10019]), (16, [2, 4, 7, 8, 9, 29, 30, 3999, 3000, 3001, 3002, 3003, 3004, 5999, 5000, 5001, 5002, 5003, 5004, 5005, 5006, 5007, 21999, 21000, 9999, 9000, 9001, 9002, 9003, 9004, 9005, 9006, 9007, 10999, 10000, 10001, 10002, 10003, 10004, 10005, 10006, 10007, 10008, 10009, 10010, 10011, 10012, 10013, 10014, 10015, 10016, 10017, 10018, 10019]), (17, [2, 4, 7, 8, 29, 30, 3999, 3000, 3001, 3002, 3003, 3004, 5999, 5000, 5001, 5002, 5003, 5004, 5005, 5006, 5007, 21999, 21000, 9999, 9000, 9001, 9002, 9003, 9004, 9005, 9006, 9007]), (18, [2, 4, 7, 8, 29, 30, 3999, 3000, 3001, 3002, 3003, 3004, 5999, 5000, 5001, 5002, 5003, 5004, 5005, 5006, 5007, 21999, 21000, 9999, 9000, 9001, 9002, 9003, 9004, 9005, 9006, 9007]), (19, [2, 4, 7, 8, 3999, 3000, 3001, 3002, 3003, 3004, 5999, 5000, 5001, 5002, 5003, 5004, 5005, 5006, 5007, 21999, 21000, 9999, 9000, 9001, 9002, 9003, 9004, 9005, 9006, 9007]), (20, [4, 8, 5999, 5000, 5001, 5002, 5003, 5004, 5005, 5006, 5007, 9999, 9000, 9001, 9002, 9003, 9004, 9005, 9006, 9007]), (21, [4, 5, 5999, 5000, 5001, 5002, 5003, 5004, 5005, 5006, 5007])]⟩
theorem make_err {c : Cfg} {seed : Int} (h : shp c ≠ 0) : Impl Try.prog 25 [cfgA c, .i .u64 seed] (.tup [.agg [.i .i64 0, .i .i64 0, rowA (some 0) [], .sl (some 0) none 20 true [], rowA (some 0) [], .i .i64 0, .i .i64 0, rowA (some 0) []], .i .i64 (shp c)]) := by
  have hs := shape_ok c
  generalize shp c = k at *
  refine impl_of (fn := Try.f25) tbl_ok (by kernel_rfl) (by kernel_rfl) rfl ⟨by simp [Try.f25], by decide⟩ rfl fun W0 => ?_
  repeat' first
    | apply WP.seq
    | (apply WP.region (E := eMake) mixed tbl_ok; conv => whnf)
    | (apply WP.cond; conv => whnf)
    | (apply WP.ret; conv => whnf)
    | (apply reg_and; (· kernel_rfl); conv => whnf)
    | (apply ex_and; (· with_reducible exact hs); conv => whnf)
    | (apply ex_eq; conv => whnf)
    | (apply nodup_and; (· exact of_decide_eq_true (by kernel_rfl)); conv => whnf)
    | (apply And.intro; (· first | with_reducible rfl | exact trivial | exact Or.inl ⟨rfl, rfl⟩ | exact Or.inr rfl | decide | omega | (apply Nat.le_of_ble_eq_true; rfl) | (dsimp only; omega) | (simp only [ints_len, gl_len, mp_len, List.length_cons, List.length_nil, List.length_drop, List.length_take]; omega)); conv => whnf)
    | apply br_not
    | (apply br_no; (· omega); conv => whnf)
    | fail
  repeat' first
    | apply True.intro
    | exact Int.NonNeg.mk _
    | (apply Or.inl; rfl)
    | (apply or_row; (· rfl); (· rfl); rfl)
    | (apply And.intro <;> conv => whnf)
    | (apply Nat.le_of_ble_eq_true; rfl)
    | fail
theorem make_ok {seed : Int} {V D n H L : Nat} (hs : shp ⟨V, D, n, H, L⟩ = 0) (hV : V ≤ 64) (hD : D ≤ 32) (hH : H ≤ 64) (hL : L ≤ 4) : Impl Try.prog 25 [cfgA ⟨V, D, n, H, L⟩, .i .u64 (stN seed 0)] (.tup [wtsA (some 0) none (sMake seed V D H L), .i .i64 0]) := by
  have hsh := shape_ok ⟨V, D, n, H, L⟩
  rw [hs, cfgA_eq] at hsh
  rw [cfgA_eq]
  refine impl_of (fn := Try.f25) tbl_ok (by kernel_rfl) (by kernel_rfl) rfl ⟨by simp [Try.f25], by decide⟩ rfl fun W0 => ?_
  repeat' first
    | apply WP.seq
    | (apply WP.region (E := eMake) mixed tbl_ok; conv => whnf)
    | (apply WP.cond; conv => whnf)
    | (apply WP.skip; conv => whnf)
    | apply WP.block
    | (apply reg_and; (· kernel_rfl); conv => whnf)
    | (apply ex_and; (· with_reducible exact hsh); conv => whnf)
    | (apply ex_and; (· with_reducible exact mside_ok (by omega) (by omega) (by omega)); conv => whnf)
    | (apply ex_eq; conv => whnf)
    | (apply And.intro; (· first | with_reducible rfl | exact trivial | exact Or.inl ⟨rfl, rfl⟩ | exact Or.inr rfl | decide | omega | (apply Nat.le_of_ble_eq_true; rfl) | (dsimp only; omega) | (simp only [ints_len, gl_len, mp_len, List.length_cons, List.length_nil, List.length_drop, List.length_take]; omega)); conv => whnf)
    | apply br_not
    | (apply br_t; conv => whnf)
    | fail
  have e0 : (0 + V * D) = 0 + V * D + 0 * pB D H := by rw [Nat.zero_mul]; rfl
  rw [e0]
  clear e0
  refine WP.loopM [9, 11, 30, 31, 41, 42, 43, 44, 9003, 21000, 10999, 10000, 10001, 10002, 10003, 10004, 10005, 10006, 10007, 10008, 10009, 10010, 10011, 10012, 10013, 10014, 10015, 10016, 10017, 10018, 10019] (fun l : Nat => [(9003, .sl (some 0) none 20 true (gl (blkA none) (mp l fun l => sBlk seed D H (0 + V * D + l * pB D H)))), (21000, .i .u64 (stN seed (0 + V * D + l * pB D H))), (30, .i .i64 l)]) (fun l => l ≤ L) (fun l => L - l) 0 ?_
  conv => whnf
  refine And.intro (And.intro ?_ ?_) (fun l hl => ?_)
  · first | omega | trivial | skip
  · conv => whnf
    repeat' first
      | apply True.intro
      | (apply ptr_and; (· kernel_rfl); conv => whnf)
      | omega
      | (apply Or.inr; rfl)
      | (apply Or.inl; rfl)
      | (apply or_row; (· rfl); (· rfl); rfl)
      | (apply And.intro <;> conv => whnf)
      | fail
  conv => whnf
  generalize hA : 0 + V * D + l * pB D H = A at *
  repeat' first
    | apply WP.seq
    | (apply WP.region (E := eMake) mixed tbl_ok; conv => whnf)
    | (apply WP.cond; conv => whnf)
    | (apply WP.skip; conv => whnf)
    | (apply WP.ret; conv => whnf)
    | (apply WP.exit; conv => whnf)
    | apply WP.block
    | (apply reg_and; (· kernel_rfl); conv => whnf)
    | (apply ex_and; (· with_reducible exact mside_ok (by omega) (by omega) (by omega)); conv => whnf)
    | (apply ex_and; (· with_reducible exact mgains_ok (by omega)); conv => whnf)
    | (apply ex_eq; conv => whnf)
    | (apply nodup_and; (· exact of_decide_eq_true (by kernel_rfl)); conv => whnf)
    | (apply And.intro; (· first | with_reducible rfl | exact trivial | exact Or.inl ⟨rfl, rfl⟩ | exact Or.inr rfl | decide | omega | (apply Nat.le_of_ble_eq_true; rfl) | (dsimp only; omega) | (simp only [ints_len, gl_len, mp_len, List.length_cons, List.length_nil, List.length_drop, List.length_take]; omega)); conv => whnf)
    | (apply br_dec <;> intro hbr <;> (first | rw [decide_eq_true hbr] | rw [decide_eq_false hbr] | skip) <;> conv => whnf)
    | fail
  · refine WP.rounds 5 ?_
    refine WPr.step ?_
    repeat' first
      | apply WP.seq
      | (apply WP.region (E := eMake) mixed tbl_ok; conv => whnf)
      | (apply WP.cond; conv => whnf)
      | (apply WP.skip; conv => whnf)
      | apply WP.block
      | (apply reg_and; (· kernel_rfl); conv => whnf)
      | (apply ex_and; (· with_reducible exact mside_ok (by omega) (by omega) (by omega)); conv => whnf)
      | (apply ex_i64; (· omega); conv => whnf)
      | (apply ex_eq; conv => whnf)
      | (apply And.intro; (· first | with_reducible rfl | exact trivial | exact Or.inl ⟨rfl, rfl⟩ | exact Or.inr rfl | decide | omega | (apply Nat.le_of_ble_eq_true; rfl) | (dsimp only; omega) | (simp only [ints_len, gl_len, mp_len, List.length_cons, List.length_nil, List.length_drop, List.length_take]; omega)); conv => whnf)
      | (apply br_t; conv => whnf)
      | fail
    refine WPr.step ?_
    repeat' first
      | apply WP.seq
      | (apply WP.region (E := eMake) mixed tbl_ok; conv => whnf)
      | (apply WP.cond; conv => whnf)
      | (apply WP.skip; conv => whnf)
      | apply WP.block
      | (apply reg_and; (· kernel_rfl); conv => whnf)
      | (apply ex_and; (· with_reducible exact mside_ok (by omega) (by omega) (by omega)); conv => whnf)
      | (apply ex_i64; (· omega); conv => whnf)
      | (apply ex_eq; conv => whnf)
      | (apply And.intro; (· first | with_reducible rfl | exact trivial | exact Or.inl ⟨rfl, rfl⟩ | exact Or.inr rfl | decide | omega | (apply Nat.le_of_ble_eq_true; rfl) | (dsimp only; omega) | (simp only [ints_len, gl_len, mp_len, List.length_cons, List.length_nil, List.length_drop, List.length_take]; omega)); conv => whnf)
      | (apply br_t; conv => whnf)
      | fail
    refine WPr.step ?_
    repeat' first
      | apply WP.seq
      | (apply WP.region (E := eMake) mixed tbl_ok; conv => whnf)
      | (apply WP.cond; conv => whnf)
      | (apply WP.skip; conv => whnf)
      | apply WP.block
      | (apply reg_and; (· kernel_rfl); conv => whnf)
      | (apply ex_and; (· with_reducible exact mside_ok (by omega) (by omega) (by omega)); conv => whnf)
      | (apply ex_i64; (· omega); conv => whnf)
      | (apply ex_eq; conv => whnf)
      | (apply And.intro; (· first | with_reducible rfl | exact trivial | exact Or.inl ⟨rfl, rfl⟩ | exact Or.inr rfl | decide | omega | (apply Nat.le_of_ble_eq_true; rfl) | (dsimp only; omega) | (simp only [ints_len, gl_len, mp_len, List.length_cons, List.length_nil, List.length_drop, List.length_take]; omega)); conv => whnf)
      | (apply br_t; conv => whnf)
      | fail
    refine WPr.step ?_
    repeat' first
      | apply WP.seq
      | (apply WP.region (E := eMake) mixed tbl_ok; conv => whnf)
      | (apply WP.cond; conv => whnf)
      | (apply WP.skip; conv => whnf)
      | apply WP.block
      | (apply reg_and; (· kernel_rfl); conv => whnf)
      | (apply ex_and; (· with_reducible exact mside_ok (by omega) (by omega) (by omega)); conv => whnf)
      | (apply ex_i64; (· omega); conv => whnf)
      | (apply ex_eq; conv => whnf)
      | (apply And.intro; (· first | with_reducible rfl | exact trivial | exact Or.inl ⟨rfl, rfl⟩ | exact Or.inr rfl | decide | omega | (apply Nat.le_of_ble_eq_true; rfl) | (dsimp only; omega) | (simp only [ints_len, gl_len, mp_len, List.length_cons, List.length_nil, List.length_drop, List.length_take]; omega)); conv => whnf)
      | (apply br_t; conv => whnf)
      | fail
    refine WPr.step ?_
    repeat' first
      | apply WP.seq
      | (apply WP.region (E := eMake) mixed tbl_ok; conv => whnf)
      | (apply WP.cond; conv => whnf)
      | (apply WP.exit; conv => whnf)
      | (apply reg_and; (· kernel_rfl); conv => whnf)
      | (apply ex_and; (· with_reducible exact mside_ok (by omega) (by omega) (by omega)); conv => whnf)
      | (apply ex_and; (· with_reducible exact mgains_ok (by omega)); conv => whnf)
      | (apply ex_i64; (· omega); conv => whnf)
      | (apply ex_eq; conv => whnf)
      | (apply And.intro; (· first | with_reducible rfl | exact trivial | exact Or.inl ⟨rfl, rfl⟩ | exact Or.inr rfl | decide | omega | (apply Nat.le_of_ble_eq_true; rfl) | (dsimp only; omega) | (simp only [ints_len, gl_len, mp_len, List.length_cons, List.length_nil, List.length_drop, List.length_take]; omega)); conv => whnf)
      | (apply br_f; conv => whnf)
      | fail
    have hn : A + D + D * D + D * D + D * D + D * D + D + H * D + D * H = 0 + V * D + (l + 1) * pB D H := by
      rw [← hA, Nat.add_mul, Nat.one_mul]; unfold pB
      generalize D * D = a1; generalize H * D = a2; generalize D * H = a3; generalize V * D = a4; generalize l * _ = a5; omega
    rw [hn]
    have hb : (mp l fun l => sBlk seed D H (0 + V * D + l * pB D H)) ++ [sBlk seed D H A] = mp (l + 1) fun l => sBlk seed D H (0 + V * D + l * pB D H) := by rw [mp_succ, hA]
    refine Exists.intro (l + 1) (And.intro (And.intro ?_ ?_) ?_)
    · first | omega | skip
    · first | omega | skip
    conv => whnf
    repeat' first
      | apply True.intro
      | (apply ptr_and; (· kernel_rfl); conv => whnf)
      | omega
      | (apply Or.inr; rfl)
      | (apply Or.inl; rfl)
      | (apply or_row; (· rfl); (· rfl); rfl)
      | (apply And.intro <;> conv => whnf)
      | (apply or_row; (· rfl); (· rfl); rw [← hb]; exact gl_snocB _ (sBlk seed D H A))
      | fail
  have e : l = L := by omega
  subst e
  subst hA
  repeat' first
    | apply True.intro
    | exact Int.NonNeg.mk _
    | (apply Or.inr; rfl)
    | (apply or_row; (· rfl); (· rfl); rfl)
    | (apply And.intro <;> conv => whnf)
    | (apply Nat.le_of_ble_eq_true; rfl)
    | rfl
    | fail
end Go.Proofs.Ytcngjnhdemjomaa.T
namespace Go.Proofs.Ytcngjnhdemjomaa.T
set_option linter.unusedSimpArgs false
set_option linter.unusedVariables false
open Go
set_option linter.unusedVariables false
set_option maxHeartbeats 8000000
set_option maxRecDepth 100000
theorem stN_at (seed : Int) (n : Nat) : IntKind.u64.wrap (seed + IntKind.u64.wrap (((n : Int) + 1) * 11400714819323198485)) = stN seed (n + 1) := by
  unfold stN
  rw [IntKind.wrap_u64, IntKind.wrap_u64, IntKind.wrap_u64]
  omega
def eRandom : Env := ⟨tbl, [], [], [], [(0, [0, 1, 2]), (1, [2, 7]), (2, [2, 7]), (3, [2, 7]), (4, [2, 7]), (5, [6])]⟩
theorem random_ok {seed : Int} {n : Nat} {most : Int} (hm : 0 ≤ most ∧ most ≤ 131072) (hn : n ≤ 1000000) : Impl Try.prog 95 [.i .u64 seed, .i .i64 n, .i .i64 most] (.i .i32 (rnd seed n most)) := by
  have hy := g3_in (g2 (g1 (stN seed (n + 1))))
  have hr := rnd_num hy hm
  have e : rnd seed n most = g3 (g2 (g1 (stN seed (n + 1)))) / 4294967296 * (2 * most) / 4294967296 - most := rfl
  have b0 : 0 ≤ stN seed (n + 1) ∧ stN seed (n + 1) ≤ 18446744073709551615 := u64_in _
  have b1 : 0 ≤ g1 (stN seed (n + 1)) ∧ g1 (stN seed (n + 1)) ≤ 18446744073709551615 := u64_in _
  have b2 : 0 ≤ g2 (g1 (stN seed (n + 1))) ∧ g2 (g1 (stN seed (n + 1))) ≤ 18446744073709551615 := u64_in _
  have e1 : ∀ x, IntKind.u64.wrap (IntKind.u64.wrap ((BitVec.ofInt IntKind.u64.bits x ^^^ BitVec.ofInt IntKind.u64.bits (x / 1073741824)).toNat : Nat) * 13787848793156543929) = g1 x := fun x => rfl
  have e2 : ∀ x, IntKind.u64.wrap (IntKind.u64.wrap ((BitVec.ofInt IntKind.u64.bits x ^^^ BitVec.ofInt IntKind.u64.bits (x / 134217728)).toNat : Nat) * 10723151780598845931) = g2 x := fun x => rfl
  have e3 : ∀ x, IntKind.u64.wrap ((BitVec.ofInt IntKind.u64.bits x ^^^ BitVec.ofInt IntKind.u64.bits (x / 2147483648)).toNat : Nat) = g3 x := fun x => rfl
  rw [e]
  generalize hY : g3 (g2 (g1 (stN seed (n + 1)))) = Y at *
  refine impl_of (fn := Try.f95) tbl_ok (by kernel_rfl) (by kernel_rfl) rfl ⟨by simp [Try.f95], by decide⟩ rfl fun W0 => ?_
  repeat' first
    | apply WP.seq
    | (apply WP.region (E := eRandom) mixed tbl_ok; conv => whnf)
    | (apply WP.ret; conv => whnf)
    | (rw [stN_at]; conv => whnf)
    | (rw [e1]; conv => whnf)
    | (rw [e2]; conv => whnf)
    | (rw [e3, hY]; conv => whnf)
    | (apply ex_as64 (Int.mul_assoc _ _ _) ⟨by omega, by omega⟩; conv => whnf)
    | (apply reg_and; (· kernel_rfl); conv => whnf)
    | (apply ex_i64; (· omega); conv => whnf)
    | (apply ex_i32; (· omega); conv => whnf)
    | (apply ex_u64; (· omega); conv => whnf)
    | (apply ex_quo; (· omega); conv => whnf)
    | (apply ex_quou; (· omega); conv => whnf)
    | (apply ex_eq; conv => whnf)
    | (apply And.intro; (· first | with_reducible rfl | exact trivial | exact Or.inl ⟨rfl, rfl⟩ | exact Or.inr rfl | decide | omega | (apply Nat.le_of_ble_eq_true; rfl) | (dsimp only; omega) | (simp only [ints_len, gl_len, mp_len, List.length_cons, List.length_nil, List.length_drop, List.length_take]; omega)); conv => whnf)
    | fail
  skip
def eRMRow : Env := ⟨tbl, [], [], [], [(0, [0, 1, 2, 3, 4]), (1, [0, 1, 2, 3, 4, 12]), (2, [0, 1, 2, 3, 4, 12, 13]), (3, [0, 1, 2, 3, 4, 12, 13, 17]), (4, [0, 1, 2, 3, 4, 12, 13]), (5, [0, 1, 2, 3, 4, 12, 13]), (6, [10, 11])]⟩
theorem rmrow_ok {seed : Int} {a n : Nat} {most more : Int} (hm : 0 ≤ most ∧ most ≤ 131072) (hm2 : 0 ≤ more ∧ more ≤ 65536) (hn : n ≤ 4096) (ha : a ≤ 900000) : Impl Try.prog 70 [.i .u64 seed, .i .i64 a, .i .i64 n, .i .i64 most, .i .i64 more] (.tup [rowA (some 0) (sRnds seed a n most more), .i .i64 ((a + n : Nat) : Int)]) := by
  refine impl_of (fn := Try.f70) tbl_ok (by kernel_rfl) (by kernel_rfl) rfl ⟨by simp [Try.f70], by decide⟩ rfl fun W0 => ?_
  repeat' first
    | apply WP.seq
    | (apply WP.region (E := eRMRow) mixed tbl_ok; conv => whnf)
    | apply WP.block
    | (apply reg_and; (· kernel_rfl); conv => whnf)
    | fail
  refine WP.loopM [12, 13, 17] (fun i : Nat => [(12, .sl (some 0) none 1 false (ints .i32 (mp i fun i => rnd seed (a + i) most + more))), (13, .i .i64 i)]) (fun i => i ≤ n) (fun i => n - i) 0 ?_
  conv => whnf
  refine And.intro (And.intro ?_ ?_) (fun i hi => ?_)
  · first | omega | trivial | skip
  · conv => whnf
    repeat' first
      | apply True.intro
      | (apply ptr_and; (· kernel_rfl); conv => whnf)
      | omega
      | (apply Or.inl; rfl)
      | (apply or_row; (· rfl); (· rfl); rfl)
      | (apply And.intro <;> conv => whnf)
      | fail
  conv => whnf
  have hb := rnd_in seed (a + i) hm
  have hrn : ∀ m : Int, m = ((a + i : Nat) : Int) → i ≤ 4096 → Impl Try.prog 95 [.i .u64 seed, .i .i64 m, .i .i64 most] (.i .i32 (rnd seed (a + i) most)) := fun m e hi => by rw [e]; exact random_ok hm (by omega)
  repeat' first
    | apply WP.seq
    | (apply WP.region (E := eRMRow) mixed tbl_ok; conv => whnf)
    | (apply WP.cond; conv => whnf)
    | (apply WP.skip; conv => whnf)
    | (apply WP.ret; conv => whnf)
    | (apply WP.exit; conv => whnf)
    | apply WP.block
    | (apply reg_and; (· kernel_rfl); conv => whnf)
    | (apply ex_and; (· with_reducible exact hrn _ (by omega) (by omega)); conv => whnf)
    | (apply ex_i64; (· omega); conv => whnf)
    | (apply ex_i32; (· omega); conv => whnf)
    | (apply ex_eq; conv => whnf)
    | (apply nodup_and; (· exact of_decide_eq_true (by kernel_rfl)); conv => whnf)
    | (apply And.intro; (· first | with_reducible rfl | exact trivial | exact Or.inl ⟨rfl, rfl⟩ | exact Or.inr rfl | decide | omega | (apply Nat.le_of_ble_eq_true; rfl) | (dsimp only; omega) | (simp only [ints_len, gl_len, mp_len, List.length_cons, List.length_nil, List.length_drop, List.length_take]; omega)); conv => whnf)
    | (apply br_dec <;> intro hbr <;> (first | rw [decide_eq_true hbr] | rw [decide_eq_false hbr] | skip) <;> conv => whnf)
    | fail
  · refine Exists.intro (i + 1) (And.intro (And.intro ?_ ?_) ?_)
    · first | omega | skip
    · first | omega | skip
    conv => whnf
    repeat' first
      | apply True.intro
      | (apply ptr_and; (· kernel_rfl); conv => whnf)
      | omega
      | (apply Or.inl; rfl)
      | (apply or_row; (· rfl); (· rfl); apply ints_mp; subst_vars; rfl)
      | (apply And.intro <;> conv => whnf)
      | fail
  · have e : i = n := by omega
    subst e
    repeat' first
      | apply True.intro
      | omega
      | (apply Or.inr; rfl)
      | (apply or_row; (· rfl); (· rfl); rfl)
      | (apply And.intro <;> conv => whnf)
      | (apply Nat.le_of_ble_eq_true; rfl)
      | fail
theorem sRnds0 (seed : Int) (a n : Nat) (most : Int) : sRnds seed a n most 0 = mp n fun i => rnd seed (a + i) most := mp_congr fun i _ => Int.add_zero _
def eSquare : Env := ⟨tbl, [], [], [], [(0, [0, 1, 2, 3, 4, 10, 11999, 11000, 11001, 11002]), (1, [2, 3, 10, 12, 13, 11999, 11000, 11001, 11002]), (2, [10, 11, 11999, 11000, 11001, 11002])]⟩
theorem square_ok {seed : Int} {a r c : Nat} {most : Int} (hm : 0 ≤ most ∧ most ≤ 131072) (hr : r ≤ 64) (hc : c ≤ 64) (ha : a ≤ 900000) : Impl Try.prog 69 [.i .u64 seed, .i .i64 a, .i .i64 r, .i .i64 c, .i .i64 most] (.tup [matA none none r c (mp (r * c) fun i => rnd seed (a + i) most), .i .i64 ((a + r * c : Nat) : Int)]) := by
  have hrc : r * c ≤ 64 * 64 := Nat.mul_le_mul hr hc
  have hrow := rmrow_ok (seed := seed) (a := a) (n := r * c) (more := 0) hm (by omega) (by omega) ha
  rw [sRnds0] at hrow
  generalize (mp (r * c) fun i => rnd seed (a + i) most) = R at *
  generalize a + r * c = q at *
  refine impl_of (fn := Try.f69) tbl_ok (by kernel_rfl) (by kernel_rfl) rfl ⟨by simp [Try.f69], by decide⟩ rfl fun W0 => ?_
  repeat' first
    | apply WP.seq
    | (apply WP.region (E := eSquare) mixed tbl_ok; conv => whnf)
    | (apply WP.ret; conv => whnf)
    | (apply reg_and; (· kernel_rfl); conv => whnf)
    | (apply ex_and; (· with_reducible exact hrow); conv => whnf)
    | (apply ex_muln; (· omega); conv => whnf)
    | (apply nodup_and; (· exact of_decide_eq_true (by kernel_rfl)); conv => whnf)
    | (apply And.intro; (· first | with_reducible rfl | exact trivial | exact Or.inl ⟨rfl, rfl⟩ | exact Or.inr rfl | decide | omega | (apply Nat.le_of_ble_eq_true; rfl) | (dsimp only; omega) | (simp only [ints_len, gl_len, mp_len, List.length_cons, List.length_nil, List.length_drop, List.length_take]; omega)); conv => whnf)
    | fail
  repeat' first
    | apply True.intro
    | exact Int.NonNeg.mk _
    | (apply Or.inr; rfl)
    | (apply or_row; (· rfl); (· rfl); rfl)
    | (apply And.intro <;> conv => whnf)
    | (apply Nat.le_of_ble_eq_true; rfl)
    | fail
/-- Made numbers, as the document's Make hands them out. -/
abbrev wtsR (w : Wts) : AV := .agg [.i .i64 w.embed.r, .i .i64 w.embed.c, rowA none w.embed.d, .sl (some 0) none 20 true (gl (blkA none) w.blocks), rowA (some 0) w.last, .i .i64 w.out.r, .i .i64 w.out.c, rowA none w.out.d]
def eRMake : Env := ⟨tbl, [], [116], [], [(0, [1, 2, 4, 3999, 3000, 3001, 3002, 3003, 3004, 5999, 5000, 5001, 5002, 5003, 5004, 5005, 5006, 5007]), (1, [1, 2, 4, 5, 3999, 3000, 3001, 3002, 3003, 3004, 5999, 5000, 5001, 5002, 5003, 5004, 5005, 5006, 5007, 6999, 6000, 6001, 6002, 6003, 6004, 6005, 6006, 6007]), (2, [1, 2, 4, 5, 6, 7, 3999, 3000, 3001, 3002, 3003, 3004, 5999, 5000, 5001, 5002, 5003, 5004, 5005, 5006, 5007, 6999, 6000, 6001, 6002, 6003, 6004, 6005, 6006, 6007, 7999, 7000, 7001, 7002]), (3, [1, 2, 4, 5, 7, 3999, 3000, 3001, 3002, 3003, 3004, 5999, 5000, 5001, 5002, 5003, 5004, 5005, 5006, 5007, 6999, 6000, 6001, 6002, 6003, 6004, 6005, 6006, 6007]), (4, [1, 2, 4, 5, 7, 26, 3999, 3000, 3001, 3002, 3003, 3004, 5999, 5000, 5001, 5002, 5003, 5004, 5005, 5006, 5007, 6999, 6000, 6001, 6002, 6003, 6004, 6005, 6006, 6007]), (5, [1, 2, 4, 5, 7, 8, 3999, 3000, 3001, 3002, 3003, 3004, 5999, 5000, 5001, 5002, 5003, 5004, 5005, 5006, 5007, 6999, 6000, 6001, 6002, 6003, 6004, 6005, 6006, 6007, 9999, 9000, 9001, 9002, 9003, 9004, 9005, 9006, 9007, 9008, 9009, 9010, 9011, 9012, 9013, 9014, 9015, 9016, 9017, 9018, 9019]), (6, [1, 2, 4, 5, 7, 8, 3999, 3000, 3001, 3002, 3003, 3004, 5999, 5000, 5001, 5002, 5003, 5004, 5005, 5006, 5007, 6999, 6000, 6001, 6002, 6003, 6004, 6005, 6006, 6007, 9999, 9000, 9001, 9002, 9003, 9004, 9005, 9006, 9007, 9008, 9009, 9010, 9011, 9012, 9013, 9014, 9015, 9016, 9017, 9018, 9019]), (7, [1, 2, 4, 5, 7, 8, 3999, 3000, 3001, 3002, 3003, 3004, 5999, 5000, 5001, 5002, 5003, 5004, 5005, 5006, 5007, 6999, 6000, 6001, 6002, 6003, 6004, 6005, 6006, 6007, 9999, 9000, 9001, 9002, 9003, 9004, 9005, 9006, 9007, 9008, 9009, 9010, 9011, 9012, 9013, 9014, 9015, 9016, 9017, 9018, 9019]), (8, [1, 2, 4, 5, 7, 8, 3999, 3000, 3001, 3002, 3003, 3004, 5999, 5000, 5001, 5002, 5003, 5004, 5005, 5006, 5007, 6999, 6000, 6001, 6002, 6003, 6004, 6005, 6006, 6007, 9999, 9000, 9001, 9002, 9003, 9004, 9005, 9006, 9007, 9008, 9009, 9010, 9011, 9012, 9013, 9014, 9015, 9016, 9017, 9018, 9019]), (9, [1, 2, 4, 5, 7, 8, 3999, 3000, 3001, 3002, 3003, 3004, 5999, 5000, 5001, 5002, 5003, 5004, 5005, 5006, 5007, 6999, 6000, 6001, 6002, 6003, 6004, 6005, 6006, 6007, 9999, 9000, 9001, 9002, 9003, 9004, 9005, 9006, 9007, 9008, 9009, 9010, 9011, 9012, 9013, 9014, 9015, 9016, 9017, 9018, 9019]), (10, [1, 2, 4, 5, 7, 8, 3999, 3000, 3001, 3002, 3003, 3004, 5999, 5000, 5001, 5002, 5003, 5004, 5005, 5006, 5007, 6999, 6000, 6001, 6002, 6003, 6004, 6005, 6006, 6007, 9999, 9000, 9001, 9002, 9003, 9004, 9005, 9006, 9007, 9008, 9009, 9010, 9011, 9012, 9013, 9014, 9015, 9016, 9017, 9018, 9019]), (11, [1, 2, 4, 5, 7, 8, 3999, 3000, 3001, 3002, 3003, 3004, 5999, 5000, 5001, 5002, 5003, 5004, 5005, 5006, 5007, 6999, 6000, 6001, 6002, 6003, 6004, 6005, 6006, 6007, 9999, 9000, 9001, 9002, 9003, 9004, 9005, 9006, 9007, 9008, 9009, 9010, 9011, 9012, 9013, 9014, 9015, 9016, 9017, 9018, 9019]), (12, [1, 2, 4, 5, 7, 8, 3999, 3000, 3001, 3002, 3003, 3004, 5999, 5000, 5001, 5002, 5003, 5004, 5005, 5006, 5007, 6999, 6000, 6001, 6002, 6003, 6004, 6005, 6006, 6007, 9999, 9000, 9001, 9002, 9003, 9004, 9005, 9006, 9007, 9008, 9009, 9010, 9011, 9012, 9013, 9014, 9015, 9016, 9017, 9018, 9019]), (13, [1, 2, 4, 5, 7, 8, 3999, 3000, 3001, 3002, 3003, 3004, 5999, 5000, 5001, 5002, 5003, 5004, 5005, 5006, 5007, 6999, 6000, 6001, 6002, 6003, 6004, 6005, 6006, 6007, 9999, 9000, 9001, 9002, 9003, 9004, 9005, 9006, 9007, 9008, 9009, 9010, 9011, 9012, 9013, 9014, 9015, 9016, 9017, 9018, 9019]), (14, [1, 2, 4, 5, 7, 3999, 3000, 3001, 3002, 3003, 3004, 5999, 5000, 5001, 5002, 5003, 5004, 5005, 5006, 5007, 6999, 6000, 6001, 6002, 6003, 6004, 6005, 6006, 6007]), (15, [1, 2, 4, 5, 7, 3999, 3000, 3001, 3002, 3003, 3004, 5999, 5000, 5001, 5002, 5003, 5004, 5005, 5006, 5007, 6999, 6000, 6001, 6002, 6003, 6004, 6005, 6006, 6007]), (16, [4, 5, 5999, 5000, 5001, 5002, 5003, 5004, 5005, 5006, 5007, 6999, 6000, 6001, 6002, 6003, 6004, 6005, 6006, 6007]), (17, [4, 5999, 5000, 5001, 5002, 5003, 5004, 5005, 5006, 5007])]⟩
theorem rmake_ok {seed : Int} {V D n H L : Nat} (hV : V ≤ 64) (hD : D ≤ 32) (hH : H ≤ 64) (hL : L ≤ 4) : Impl Try.prog 47 [cfgA ⟨V, D, n, H, L⟩, .i .u64 seed] (wtsR (sMake seed V D H L)) := by
  rw [cfgA_eq]
  have k1 : V * D ≤ 64 * 32 := Nat.mul_le_mul hV hD
  have k2 : D * D ≤ 32 * 32 := Nat.mul_le_mul hD hD
  have k3 : H * D ≤ 64 * 32 := Nat.mul_le_mul hH hD
  have k4 : D * H ≤ 32 * 64 := Nat.mul_le_mul hD hH
  have k5 : pB D H ≤ 20000 := by unfold pB; omega
  have h0 : Impl Try.prog 69 [.i .u64 seed, .i .i64 0, .i .i64 V, .i .i64 D, .i .i64 131072] (.tup [matA none none V D (mp (V * D) fun i => rnd seed (0 + i) 131072), .i .i64 ((0 + V * D : Nat) : Int)]) := square_ok (a := 0) (by omega) (by omega) (by omega) (by omega)
  refine impl_of (fn := Try.f47) tbl_ok (by kernel_rfl) (by kernel_rfl) rfl ⟨by simp [Try.f47], by decide⟩ rfl fun W0 => ?_
  repeat' first
    | apply WP.seq
    | (apply WP.region (E := eRMake) mixed tbl_ok; conv => whnf)
    | apply WP.block
    | (apply reg_and; (· kernel_rfl); conv => whnf)
    | (apply ex_and; (· with_reducible exact h0); conv => whnf)
    | fail
  have e0 : (0 + V * D) = 0 + V * D + 0 * pB D H := by rw [Nat.zero_mul]; rfl
  rw [e0]
  clear e0
  refine WP.loopM [7, 8, 26, 6003, 9999, 9000, 9001, 9002, 9003, 9004, 9005, 9006, 9007, 9008, 9009, 9010, 9011, 9012, 9013, 9014, 9015, 9016, 9017, 9018, 9019] (fun l : Nat => [(6003, .sl (some 0) none 20 true (gl (blkA none) (mp l fun l => sBlk seed D H (0 + V * D + l * pB D H)))), (7, .i .i64 ((0 + V * D + l * pB D H : Nat) : Int))]) (fun l => l ≤ L) (fun l => L - l) 0 ?_
  conv => whnf
  refine And.intro (And.intro ?_ ?_) (fun l hl => ?_)
  · first | omega | trivial | skip
  · conv => whnf
    repeat' first
      | apply True.intro
      | (apply ptr_and; (· kernel_rfl); conv => whnf)
      | omega
      | (apply Or.inr; rfl)
      | (apply Or.inl; rfl)
      | (apply or_row; (· rfl); (· rfl); rfl)
      | (apply And.intro <;> conv => whnf)
      | fail
  conv => whnf
  have k6 : l * pB D H ≤ 4 * 20000 := Nat.mul_le_mul (by omega) k5
  have hml : (mp l fun l => sBlk seed D H (0 + V * D + l * pB D H)).length = l := mp_len _ _
  generalize hA : 0 + V * D + l * pB D H = A at *
  have k7 : A ≤ 100000 := by omega
  repeat' first
    | apply WP.seq
    | (apply WP.region (E := eRMake) mixed tbl_ok; conv => whnf)
    | (apply WP.cond; conv => whnf)
    | (apply WP.skip; conv => whnf)
    | (apply WP.ret; conv => whnf)
    | (apply WP.exit; conv => whnf)
    | apply WP.block
    | (apply reg_and; (· kernel_rfl); conv => whnf)
    | (apply ex_and; (· with_reducible exact square_ok (by omega) (by omega) (by omega) (by omega)); conv => whnf)
    | (apply ex_and; (· with_reducible exact rmrow_ok (by omega) (by omega) (by omega) (by omega)); conv => whnf)
    | (apply ex_glen; conv => whnf)
    | (apply ex_eq; conv => whnf)
    | (apply And.intro; (· first | with_reducible rfl | exact trivial | exact Or.inl ⟨rfl, rfl⟩ | exact Or.inr rfl | decide | omega | (apply Nat.le_of_ble_eq_true; rfl) | (dsimp only; omega) | (simp only [ints_len, gl_len, mp_len, List.length_cons, List.length_nil, List.length_drop, List.length_take]; omega)); conv => whnf)
    | (apply br_dec <;> intro hbr <;> (first | rw [decide_eq_true hbr] | rw [decide_eq_false hbr] | skip) <;> conv => whnf)
    | fail
  · rw [hml] at hbr
    have hn : A + D + D * D + D * D + D * D + D * D + D + H * D + D * H = 0 + V * D + (l + 1) * pB D H := by
      rw [← hA, Nat.add_mul, Nat.one_mul]; unfold pB
      generalize D * D = a1; generalize H * D = a2; generalize D * H = a3; generalize V * D = a4; generalize l * _ = a5; omega
    rw [hn]
    have hb : (mp l fun l => sBlk seed D H (0 + V * D + l * pB D H)) ++ [sBlk seed D H A] = mp (l + 1) fun l => sBlk seed D H (0 + V * D + l * pB D H) := by rw [mp_succ, hA]
    refine Exists.intro (l + 1) (And.intro (And.intro ?_ ?_) ?_)
    · first | omega | skip
    · first | omega | skip
    conv => whnf
    repeat' first
      | apply True.intro
      | (apply ptr_and; (· kernel_rfl); conv => whnf)
      | omega
      | (apply Or.inr; rfl)
      | (apply Or.inl; rfl)
      | (apply or_row; (· rfl); (· rfl); rfl)
      | (apply And.intro <;> conv => whnf)
      | (apply or_row; (· rfl); (· rfl); rw [← hb]; exact gl_snocB _ (sBlk seed D H A))
      | fail
  rw [hml] at hbr
  have e : l = L := by omega
  subst e
  subst hA
  repeat' first
    | apply True.intro
    | (apply Or.inr; rfl)
    | (apply or_row; (· rfl); (· rfl); rfl)
    | (apply And.intro <;> conv => whnf)
    | rfl
    | fail
end Go.Proofs.Ytcngjnhdemjomaa.T
namespace Go.Proofs.Ytcngjnhdemjomaa.T
set_option linter.unusedSimpArgs false
set_option linter.unusedVariables false
open Go
set_option linter.unusedVariables false
set_option maxHeartbeats 8000000
set_option maxRecDepth 100000
theorem matG_ok {r c : Nat} {m : MatD} (h : MatG r c m) : matOk m.r m.c m.d r c := by
  obtain ⟨h1, h2, h3⟩ := h
  refine ⟨?_, h1, h2⟩
  rw [h1, h2]; exact chk_ok h3
theorem wtsG_ok {c : Cfg} {V D H L : Nat} {w : Wts} (h1 : c.vocab = V) (h2 : c.dim = D) (h3 : c.hidden = H) (h4 : c.layers = L) (hg : WtsG V D H L w) : wtsOk c w := by
  refine ⟨?_, ?_, ?_, ?_, fun b hb => ⟨?_, ?_, ?_, ?_, ?_, ?_, ?_, ?_⟩⟩
  · rw [h1, h2]; exact matG_ok hg.embed
  · rw [h1, h2]; exact matG_ok hg.out
  · rw [h2, hg.last.1]
  · rw [h4, hg.layers]
  · rw [h2]; exact matG_ok (hg.blocks b hb).q
  · rw [h2]; exact matG_ok (hg.blocks b hb).k
  · rw [h2]; exact matG_ok (hg.blocks b hb).v
  · rw [h2]; exact matG_ok (hg.blocks b hb).o
  · rw [h2, h3]; exact matG_ok (hg.blocks b hb).up
  · rw [h2, h3]; exact matG_ok (hg.blocks b hb).down
  · rw [h2, (hg.blocks b hb).first.1]
  · rw [h2, (hg.blocks b hb).second.1]
theorem side_good {seed : Int} {a r c : Nat} {most : Int} (hr : 0 < r ∧ r ≤ 64) (hc : 0 < c ∧ c ≤ 64) (hm : 0 ≤ most ∧ most ≤ 131072) : MatG r c (sSide seed a r c most) := by
  exact ⟨rfl, rfl, by omega, by omega, by omega, by omega, mp_len _ _, mp_i32s fun i _ => by have := rnd_in seed (a + i) hm; exact ⟨by omega, by omega⟩⟩
theorem make_good {seed : Int} {V D H L : Nat} (hV : 0 < V ∧ V ≤ 64) (hD : 0 < D ∧ D ≤ 32) (hH : 0 < H ∧ H ≤ 64) : WtsG V D H L (sMake seed V D H L) := by
  refine ⟨side_good hV (by omega) (by omega), fun b hb => ?_, ?_, ?_, side_good hV (by omega) (by omega)⟩
  · obtain ⟨j, hj, rfl⟩ := mem_mp hb
    exact ⟨⟨sRnds_len _ _ _ _ _, sRnds_i32 _ _ _ (by omega) (by omega)⟩, side_good (by omega) (by omega) (by omega), side_good (by omega) (by omega) (by omega), side_good (by omega) (by omega) (by omega), side_good (by omega) (by omega) (by omega), ⟨sRnds_len _ _ _ _ _, sRnds_i32 _ _ _ (by omega) (by omega)⟩, side_good (by omega) (by omega) (by omega), side_good (by omega) (by omega) (by omega)⟩
  · exact mp_len _ _
  · exact ⟨sRnds_len _ _ _ _ _, sRnds_i32 _ _ _ (by omega) (by omega)⟩
/-- All numbers are 32 bits wide. -/
structure BlkI (b : Blk) : Prop where
  first : I32s b.first
  q : I32s b.q.d
  k : I32s b.k.d
  v : I32s b.v.d
  o : I32s b.o.d
  second : I32s b.second
  up : I32s b.up.d
  down : I32s b.down.d
structure WtsI (w : Wts) : Prop where
  embed : I32s w.embed.d
  blocks : ∀ b ∈ w.blocks, BlkI b
  last : I32s w.last
  out : I32s w.out.d
theorem matOk_g {r c : Nat} {m : MatD} (h : matOk m.r m.c m.d r c) (hi : I32s m.d) : MatG r c m := by
  obtain ⟨h1, h2, h3⟩ := h
  obtain ⟨a, e1, e2⟩ := ok_chk h1 hi
  have e3 : m.r.toNat = r := by omega
  have e4 : m.c.toNat = c := by omega
  rw [e3, e4] at a
  exact ⟨h2, h3, a⟩
/-- A configuration that is right, in whole numbers. -/
structure CfgG (c : Cfg) (V D n H L s : Nat) : Prop where
  gv : c.vocab = V ∧ 2 ≤ V ∧ V ≤ 64
  gd : c.dim = D ∧ 0 < D ∧ D ≤ 32
  gn : c.heads = n ∧ 1 ≤ n ∧ n ≤ 4
  gh : c.hidden = H ∧ 0 < H ∧ H ≤ 64
  gl : c.layers = L ∧ 1 ≤ L ∧ L ≤ 4
  gs : n * s = D
theorem shp_good {c : Cfg} (h : shp c = 0) : ∃ V D n H L s : Nat, CfgG c V D n H L s := by
  unfold shp at h
  split at h
  · cases h
  split at h
  · cases h
  split at h
  · cases h
  rename_i h1 h2 h3
  have h3 := Classical.not_not.1 h3
  refine ⟨c.vocab.toNat, c.dim.toNat, c.heads.toNat, c.hidden.toNat, c.layers.toNat, c.dim.toNat / c.heads.toNat, ⟨by omega, by omega, by omega⟩, ⟨by omega, by omega, by omega⟩, ⟨by omega, by omega, by omega⟩, ⟨by omega, by omega, by omega⟩, ⟨by omega, by omega, by omega⟩, ?_⟩
  refine Nat.mul_div_cancel' (Nat.dvd_of_mod_eq_zero ?_)
  have e1 : (c.dim.toNat : Int) = c.dim := by omega
  have e2 : (c.heads.toNat : Int) = c.heads := by omega
  rw [← e1, ← e2] at h3
  exact_mod_cast h3
theorem shp_of {c : Cfg} {V D n H L s : Nat} (h : CfgG c V D n H L s) : shp c = 0 := by
  obtain ⟨h1, h2, h3, h4, h5, h6⟩ := h
  unfold shp
  rw [if_neg (by omega), if_neg (by omega), if_neg]
  rw [h2.1, h3.1, ← h6]
  simp
theorem wts_good {c : Cfg} {V D n H L s : Nat} {w : Wts} (hc : CfgG c V D n H L s) (h : wtsOk c w) (hi : WtsI w) : WtsG V D H L w := by
  obtain ⟨h1, h2, h3, h4, h5, h6⟩ := hc
  obtain ⟨k1, k2, k3, k4, k5⟩ := h
  rw [h1.1, h2.1] at k1 k2
  refine ⟨matOk_g k1 hi.embed, fun b hb => ?_, by omega, ⟨by omega, hi.last⟩, matOk_g k2 hi.out⟩
  have hb1 := k5 b hb
  obtain ⟨b1, b2, b3, b4, b5, b6, b7, b8⟩ := hb1
  have hib := hi.blocks b hb
  rw [h2.1] at b1 b2 b3 b4
  rw [h4.1, h2.1] at b5
  rw [h2.1, h4.1] at b6
  exact ⟨⟨by omega, hib.first⟩, matOk_g b1 hib.q, matOk_g b2 hib.k, matOk_g b3 hib.v, matOk_g b4 hib.o, ⟨by omega, hib.second⟩, matOk_g b5 hib.up, matOk_g b6 hib.down⟩
theorem chkW_zero {c : Cfg} {w : Wts} (h : chkW c w = 0) : shp c = 0 ∧ wtsOk c w := by
  unfold chkW at h
  split at h
  · rename_i h1; exact absurd h h1
  split at h
  · rename_i h1 h2; exact ⟨Classical.not_not.1 h1, h2⟩
  · cases h
theorem chkW_of {c : Cfg} {V D n H L s : Nat} {w : Wts} (hc : CfgG c V D n H L s) (hg : WtsG V D H L w) : chkW c w = 0 := (chk_good (shp_of hc) (wtsG_ok hc.gv.1 hc.gd.1 hc.gh.1 hc.gl.1 hg)).symm
/-- Rows at the beginning. -/
abbrev fB (D : Nat) (w : Wts) (t : List Int) (i : Nat) : List Int := sBegin D w (t.getD i 0).toNat i
/-- What a model likes. -/
def sFull (V D H s : Nat) (w : Wts) (t : List Int) : List Int := sLikes V D w (X D H s w (fB D w t) w.blocks.length (t.length - 1))
def sKeys (D H s : Nat) (w : Wts) (t : List Int) : List (List (List Int)) := mp w.blocks.length fun l => mp t.length (kF D H s w (fB D w t) l)
def sVals (D H s : Nat) (w : Wts) (t : List Int) : List (List (List Int)) := mp w.blocks.length fun l => mp t.length (vF D H s w (fB D w t) l)
theorem prm_zero {v : Int} {t : List Int} (h : prm v t = 0) : 0 < t.length ∧ t.length ≤ 128 ∧ ∀ x ∈ t, 0 ≤ x ∧ x < v := by
  unfold prm at h
  split at h
  · cases h
  split at h
  · cases h
  split at h
  · rename_i h1 h2 h3; exact ⟨by omega, by omega, h3⟩
  · cases h
theorem full_good {nt : Option Bool} {c : Cfg} {V D n H L s : Nat} {w : Wts} {t : List Int} (hc : CfgG c V D n H L s) (hg : WtsG V D H L w) (hp : prm c.vocab t = 0) : Impl Try.prog 17 [cfgA c, wtsA none none w, .sl none nt 1 false (ints .i64 t)] (.tup [rowA (some 0) (sFull V D H s w t), .agg [rows3 (some 0) (sKeys D H s w t), rows3 (some 0) (sVals D H s w t)], .i .i64 0]) := by
  obtain ⟨p1, p2, p3⟩ := prm_zero hp
  have hV : ∀ x ∈ t, 0 ≤ x ∧ x < (V : Int) := fun x hx => by have := p3 x hx; rwa [hc.gv.1] at this
  exact full_ok (by have := hg.layers; have := hc.gl; omega) (chkW_of hc hg) hp hc.gn.1 hc.gn.2 hc.gs hc.gd.2 hc.gh.2 hg ⟨p1, p2⟩ hV
theorem rfull_good {nt : Option Bool} {c : Cfg} {V D n H L s : Nat} {w : Wts} {t : List Int} (hc : CfgG c V D n H L s) (hg : WtsG V D H L w) (hp : prm c.vocab t = 0) : Impl Try.prog 21 [cfgA c, wtsA none none w, .sl none nt 1 false (ints .i64 t)] (.agg [rows3F (some 0) (pR D H s L w (fB D w t) t.length), rows3F (some 0) (sKeys D H s w t), rows3F (some 0) (sVals D H s w t)]) := by
  obtain ⟨p1, p2, p3⟩ := prm_zero hp
  have hV : ∀ x ∈ t, 0 ≤ x ∧ x < (V : Int) := fun x hx => by have := p3 x hx; rwa [hc.gv.1] at this
  have := rfull_ok (nt := nt) hc.gl.1 hc.gl.2.2 hc.gn.1 hc.gn.2 hc.gs hc.gd.2 hc.gh.2 hg p2 hV
  obtain ⟨m, hm⟩ : ∃ m, t.length = m + 1 := ⟨t.length - 1, by omega⟩
  have e1 : pK D H s L w (fB D w t) t.length = sKeys D H s w t := by unfold sKeys; rw [hg.layers, hm]; rfl
  have e2 : pV D H s L w (fB D w t) t.length = sVals D H s w t := by unfold sVals; rw [hg.layers, hm]; rfl
  rw [e1, e2] at this
  exact this
theorem rlikes_good {c : Cfg} {V D n H L s : Nat} {w : Wts} {t : List Int} {K W : List (List (List Int))} (hc : CfgG c V D n H L s) (hg : WtsG V D H L w) (hp : prm c.vocab t = 0) : Impl Try.prog 23 [wtsA none none w, .agg [rows3F none (pR D H s L w (fB D w t) t.length), rows3F none K, rows3F none W]] (rowA (some 0) (sFull V D H s w t)) := by
  obtain ⟨p1, p2, p3⟩ := prm_zero hp
  have hX := X_ok (V := V) (H := H) (L := L) (s := s) (w := w) (m := t.length) (F0 := fB D w t) (fun i _ => ⟨sBegin_len _ _ _ _, sBegin_i32 _ _ _ _⟩) w.blocks.length (Nat.le_refl _) (t.length - 1) (by omega)
  obtain ⟨m, hm⟩ : ∃ m, t.length = m + 1 := ⟨t.length - 1, by omega⟩
  have e1 : pR D H s L w (fB D w t) t.length = mp (L + 1) fun l => mp (m + 1) (X D H s w (fB D w t) l) := by rw [hm]; rfl
  have e2 : (mp (L + 1) fun l => mp (m + 1) (X D H s w (fB D w t) l)).getD L [] = mp (m + 1) (X D H s w (fB D w t) L) := by unfold mp; rw [List.getD_eq_getElem?_getD, List.getElem?_map, List.getElem?_range (by omega)]; rfl
  rw [e1]
  unfold sFull
  rw [hm, Nat.add_sub_cancel] at hX ⊢
  have hl := hc.gl
  refine rlikes_ok (l := L) (m := m) (by have := hc.gd; omega) hg (mp_len _ _) ?_ ?_ (by omega) (by omega) hX.1 hX.2
  · rw [e2, mp_len]
  · rw [e2, hg.layers]
    unfold mp
    rw [List.getD_eq_getElem?_getD, List.getElem?_map, List.getElem?_range (by omega)]; rfl
end Go.Proofs.Ytcngjnhdemjomaa.T
namespace Go.Proofs.Ytcngjnhdemjomaa.T
set_option linter.unusedSimpArgs false
set_option linter.unusedVariables false
open Go
set_option linter.unusedVariables false
set_option maxHeartbeats 8000000
set_option maxRecDepth 100000
/-- More may be known of arguments. -/
theorem impl_le {P : Program} {f : Nat} {cs bs : List AV} {r : AV} (h : Impl P f cs r) (hle : le2L bs cs) (h1 : headOk bs = true) : Impl P f bs r := by
  have h2 : ∀ e, cs[0]? = some e → ∀ l, e ≠ .tup l := by
    intro e he l e'
    subst e'
    obtain ⟨e0, _, hl⟩ := (le2L_get hle).2 0 _ he
    cases e0 <;> exact hl.elim
  have hi := h.f h2
  refine headOk_impl h1 ⟨hi.fn, fun F w vs hs hv hF => hi.calls F w vs (by rw [hs]; exact (le2L_get hle).1) (fun j e v he hv2 => ?_) hF⟩
  obtain ⟨e0, he0, hl⟩ := (le2L_get hle).2 j e he
  obtain ⟨ts', t1, t2⟩ := le2_rw hl (hv j e0 v he0 hv2)
  have : ts' = [] := List.sublist_nil.1 t1
  rw [this] at t2
  exact t2
theorem le_refl1 (v : AV) (h : ∀ l, v ≠ .agg l) (h2 : ∀ l, v ≠ .tup l) (h3 : v.plain1 = true) : v.le2 v := by
  cases v <;> first | exact absurd rfl (h _) | exact absurd rfl (h2 _) | exact ⟨rfl, .inr rfl, .inl ⟨rfl, rfl, rfl⟩⟩ | exact ⟨rfl, rfl⟩ | exact rfl | exact trivial | (cases h3; done)
theorem made_cfg : CfgG ⟨2, 1, 1, 1, 1⟩ 2 1 1 1 1 1 := ⟨by decide, by decide, by decide, by decide, by decide, by decide⟩
def eAwake8 : Env := ⟨tbl, [], [], [], [(0, []), (1, [1, 2999, 2000, 2001, 2002, 2003, 2004]), (2, [1, 2, 3, 2999, 2000, 2001, 2002, 2003, 2004, 3999, 3000, 3001, 3002, 3003, 3004, 3005, 3006, 3007]), (3, [1, 2, 3, 4, 6, 2999, 2000, 2001, 2002, 2003, 2004, 3999, 3000, 3001, 3002, 3003, 3004, 3005, 3006, 3007]), (4, [1, 3, 4, 6, 9, 2999, 2000, 2001, 2002, 2003, 2004]), (5, [0])]⟩
theorem awake8_ok : Impl Try.prog 20 [] (.b true) := by
  have hm : Impl Try.prog 25 [.agg [.i .i64 2, .i .i64 1, .i .i64 1, .i .i64 1, .i .i64 1], .i .u64 1] (.tup [wtsA (some 0) none (sMake 1 2 1 1 1), .i .i64 0]) := make_ok (seed := 1) (V := 2) (D := 1) (n := 1) (H := 1) (L := 1) (by decide) (by decide) (by decide) (by decide) (by decide)
  have hrm : Impl Try.prog 47 [.agg [.i .i64 2, .i .i64 1, .i .i64 1, .i .i64 1, .i .i64 1], .i .u64 1] (wtsR (sMake 1 2 1 1 1)) := rmake_ok (seed := 1) (V := 2) (D := 1) (n := 1) (H := 1) (L := 1) (by decide) (by decide) (by decide) (by decide)
  have hg : WtsG 2 1 1 1 (sMake 1 2 1 1 1) := make_good (by decide) (by decide) (by decide)
  generalize sMake 1 2 1 1 1 = w at *
  have hlen := hg.layers
  have hf : ∀ {nt : Option Bool}, Impl Try.prog 17 [.agg [.i .i64 2, .i .i64 1, .i .i64 1, .i .i64 1, .i .i64 1], wtsA none none w, .sl none nt 1 false [.i .i64 1, .i .i64 0]] (.tup [rowA (some 0) (sFull 2 1 1 1 w [1, 0]), .agg [rows3 (some 0) (sKeys 1 1 1 w [1, 0]), rows3 (some 0) (sVals 1 1 1 w [1, 0])], .i .i64 0]) := fun {nt} => full_good (t := [1, 0]) made_cfg hg (by decide)
  have hn : Impl Try.prog 17 [.agg [.i .i64 2, .i .i64 1, .i .i64 1, .i .i64 1, .i .i64 1], wtsA none none w, .sl none (some true) 0 false []] (.tup [rowA (some 0) [], .agg [rows3 (some 0) [], rows3 (some 0) []], .i .i64 8]) := by
    refine impl_le (full_prm (nt := none) (c := ⟨2, 1, 1, 1, 1⟩) (w := w) (t := []) (by omega) (by decide) (chkW_of made_cfg hg) (by decide)) ?_ rfl
    repeat' first
      | apply True.intro
      | (apply Or.inr; rfl)
      | (apply Or.inl; rfl)
      | (apply or_row; (· rfl); (· rfl); rfl)
      | (apply Or.inr; apply And.intro; (· rfl); rfl)
      | (apply And.intro <;> conv => whnf)
      | fail
  have hrf : ∀ {nt : Option Bool}, Impl Try.prog 21 [.agg [.i .i64 2, .i .i64 1, .i .i64 1, .i .i64 1, .i .i64 1], wtsA none none w, .sl none nt 1 false [.i .i64 1, .i .i64 0]] (.agg [rows3F (some 0) (pR 1 1 1 1 w (fB 1 w [1, 0]) 2), rows3F (some 0) (sKeys 1 1 1 w [1, 0]), rows3F (some 0) (sVals 1 1 1 w [1, 0])]) := fun {nt} => rfull_good (t := [1, 0]) made_cfg hg (by decide)
  have hrl : Impl Try.prog 23 [wtsA none none w, .agg [rows3F none (pR 1 1 1 1 w (fB 1 w [1, 0]) 2), rows3F none (sKeys 1 1 1 w [1, 0]), rows3F none (sVals 1 1 1 w [1, 0])]] (rowA (some 0) (sFull 2 1 1 1 w [1, 0])) := rlikes_good (t := [1, 0]) made_cfg hg (by decide)
  have hlk : (sFull 2 1 1 1 w [1, 0]).length ≤ 1000000000000 := by unfold sFull sLikes; rw [sApply_len]; decide
  generalize sFull 2 1 1 1 w [1, 0] = fu at *
  generalize pR 1 1 1 1 w (fB 1 w [1, 0]) 2 = pr at *
  generalize sKeys 1 1 1 w [1, 0] = ks at *
  generalize sVals 1 1 1 w [1, 0] = vs at *
  refine impl_of (fn := Try.f20) tbl_ok (by kernel_rfl) (by kernel_rfl) rfl ⟨by simp [Try.f20], by decide⟩ rfl fun W0 => ?_
  repeat' first
    | apply WP.seq
    | (apply WP.region (E := eAwake8) mixed tbl_ok; conv => whnf)
    | (apply WP.ret; conv => whnf)
    | (rw [fz_blks]; conv => whnf)
    | (rw [fz_rowsN]; conv => whnf)
    | (rw [decide_eq_true (rfl : fu = fu)]; conv => whnf)
    | (apply reg_and; (· kernel_rfl); conv => whnf)
    | (apply ex_and; (· with_reducible exact hm); conv => whnf)
    | (apply ex_and; (· with_reducible exact hrm); conv => whnf)
    | (apply ex_and; (· with_reducible exact hf); conv => whnf)
    | (apply ex_and; (· with_reducible exact hn); conv => whnf)
    | (apply ex_and; (· with_reducible exact hrf); conv => whnf)
    | (apply ex_and; (· with_reducible exact hrl); conv => whnf)
    | (apply ex_and; (· with_reducible exact same3_ok hlk); conv => whnf)
    | (apply ex_eq; conv => whnf)
    | (apply gd_br)
    | (apply And.intro; (· first | with_reducible rfl | exact trivial | exact Or.inl ⟨rfl, rfl⟩ | exact Or.inr rfl | decide | omega | (apply Nat.le_of_ble_eq_true; rfl) | (dsimp only; omega) | (simp only [ints_len, gl_len, mp_len, List.length_cons, List.length_nil, List.length_drop, List.length_take]; omega)); conv => whnf)
    | (apply br_t; conv => whnf)
    | fail
end Go.Proofs.Ytcngjnhdemjomaa.T
namespace Go.Proofs.Ytcngjnhdemjomaa.T
set_option linter.unusedSimpArgs false
set_option linter.unusedVariables false
open Go Go.RowKit Go.ChangeShapes Go.WideShapes Go.Deep
set_option linter.unusedVariables false
abbrev Old (W : World) : Nat → Prop := fun b => b < W.heap.size
structure RpL (W : World) (l : List AV) (cs : List Value) : Prop where
  len : cs.length = l.length
  each : ∀ (j : Nat) (e : AV) (u : Value), l[j]? = some e → cs[j]? = some u → RB W (Old W) e u []
theorem rpL_one {W : World} {e : AV} {v : Value} (h : RB W (Old W) e v []) : RpL W [e] [v] := ⟨rfl, fun j e' u he hu => by
  cases j with
  | zero => cases he; cases hu; exact h
  | succ j => cases he⟩
theorem rpL_app {W : World} {l m : List AV} {cs ds : List Value} (h1 : RpL W l cs) (h2 : RpL W m ds) : RpL W (l ++ m) (cs ++ ds) := by
  refine ⟨by rw [List.length_append, List.length_append, h1.len, h2.len], fun j e u he hu => ?_⟩
  by_cases hj : j < l.length
  · rw [List.getElem?_append_left hj] at he
    rw [List.getElem?_append_left (by rw [h1.len]; exact hj)] at hu
    exact h1.each j e u he hu
  · rw [List.getElem?_append_right (by omega)] at he
    rw [List.getElem?_append_right (by rw [h1.len]; omega), h1.len] at hu
    exact h2.each _ e u he hu
theorem rpL_agg {W : World} {l : List AV} {cs : List Value} (h : RpL W l cs) : Rp W (Old W) (.agg l) cs [] := by
  have h0 : (List.range l.length).flatMap (fun _ => ([] : List Nat)) = [] := by simp
  rw [← h0]
  exact .agg h.len (fun j e he => by
    have hj := lt_of_get he
    exact (h.each j e (cs[j]'(by rw [h.len]; exact hj)) he (List.getElem?_eq_getElem _)).na) (fun j e u he hu => (h.each j e u he hu).rp)
structure Rd {α : Type} (P : Program) (t : TypeId) (f : α → List AV) (wf : α → Prop) : Prop where
  out : ∀ {H : Type} (enc : TypeId × Value → H) (W : World) (fuel : Nat) (cs : List Value) (x : DataW H × List MemPlace), (∀ n ∈ DataW.weights P t x.1, n ≤ reachBytes) →
    DataW.trod enc P W 0 (fun _ => true) true fuel t cs = some x → ∃ a, RpL W (f a) cs ∧ wf a
theorem rd_int {P : Program} {t : TypeId} {k : IntKind} (ht : P.underlying t = some (.int k)) : Rd P t (fun n : Int => [.i k n]) (fun n => k.min ≤ n ∧ n ≤ k.max) := by
  constructor
  intro H enc W fuel cs x _ h
  obtain ⟨n, hc, _, hw⟩ := DataW.trod_int ht h
  rw [hc]
  exact ⟨n, rpL_one ⟨.i _ _, fun l e => by cases e⟩, by simpa [Lit.wf] using hw⟩
theorem rd_bool {P : Program} {t : TypeId} (ht : P.underlying t = some .bool) : Rd P t (fun b : Bool => [.b b]) (fun _ => True) := by
  constructor
  intro H enc W fuel cs x _ h
  obtain ⟨b, hc, _⟩ := DataW.trod_bool ht h
  rw [hc]
  exact ⟨b, rpL_one ⟨.b _, fun l e => by cases e⟩, trivial⟩
theorem rd_map {α β : Type} {P : Program} {t : TypeId} {f : α → List AV} {wf : α → Prop} {f' : β → List AV} {wf' : β → Prop} (g : α → β) (hf : ∀ a, f' (g a) = f a) (hw : ∀ a, wf a → wf' (g a)) (h : Rd P t f wf) : Rd P t f' wf' := by
  constructor
  intro H enc W fuel cs x hx hr
  obtain ⟨a, ha, hwa⟩ := h.out enc W fuel cs x hx hr
  exact ⟨g a, by rw [hf]; exact ha, hw a hwa⟩
theorem rd_mapR {α β : Type} {P : Program} {t : TypeId} {f : α → List AV} {wf : α → Prop} {f' : β → List AV} {wf' : β → Prop} (h : Rd P t f wf) (g : α → β) (hf : ∀ a, f' (g a) = f a) (hw : ∀ a, wf a → wf' (g a)) : Rd P t f' wf' := rd_map g hf hw h
theorem weightsAll_mem {H : Type} {P : Program} {e : TypeId} : ∀ {l : List (DataW H)} {d : DataW H} {n : Nat}, d ∈ l → n ∈ DataW.weights P e d → n ∈ DataW.weightsAll P e l
  | a :: l, d, n, hd, hn => by
    simp only [DataW.weightsAll, List.mem_append]
    rcases List.mem_cons.1 hd with rfl | hd
    · exact .inl hn
    · exact .inr (weightsAll_mem hd hn)
theorem exists_list {α : Type} (n : Nat) (p : Nat → α → Prop) (h : ∀ i, i < n → ∃ x, p i x) : ∃ l : List α, l.length = n ∧ ∀ i x, l[i]? = some x → p i x := by
  induction n with
  | zero => exact ⟨[], rfl, fun i x hx => by simp at hx⟩
  | succ n ih =>
    obtain ⟨l, hl, hp⟩ := ih (fun i hi => h i (by omega))
    obtain ⟨x, hx⟩ := h n (by omega)
    refine ⟨l ++ [x], by simp [hl], fun i y hy => ?_⟩
    rcases Nat.lt_or_ge i l.length with hi | hi
    · rw [List.getElem?_append_left hi] at hy
      exact hp i y hy
    · rw [List.getElem?_append_right hi] at hy
      have : i - l.length = 0 := by
        have := (List.getElem?_eq_some_iff.1 hy).1
        simp at this
        omega
      rw [this] at hy
      simp at hy
      subst hy
      have : i = n := by omega
      rw [this]
      exact hx
theorem cell_old {w : World} {a : Addr} {u : Value} (h : w.cell? a = some u) : a.block < w.heap.size ∧ a.spot = none := by
  unfold World.cell? at h
  split at h
  · rename_i c r f hh
    refine ⟨(Array.getElem?_eq_some_iff.1 hh).1, ?_⟩
    split at h
    · cases h
    · rename_i hs
      cases hsp : a.spot with
      | none => rfl
      | some s => rw [hsp] at hs; exact absurd rfl hs
  · cases h
theorem rd_slice {α : Type} {P : Program} {t e : TypeId} {f : α → List AV} {el : α → AV} {wf : α → Prop} {B sz : Nat} {dp : Bool} (ht : P.underlying t = some (.slice e)) (hz : P.cellsOf e = sz) (hsz : 0 < sz) (hB : P.bytesOf e = B) (he : Rd P e f wf) (hel : ∀ a, el a = .agg (f a) ∨ f a = [el a]) (hd : dp = false → ∀ a, (el a).scal = true) :
    Rd P t (fun l : List α => [.sl none none sz dp (l.map el)]) (fun l => l.length * B ≤ 140737488351232 ∧ ∀ x ∈ l, wf x) := by
  constructor
  intro H enc W fuel cs x hw h
  rcases open_slice ht h with ⟨rfl, rfl⟩ | ⟨a, len, cap, m, n, D, Pl, rfl, hb, hl, hm, hmm, rfl, hx⟩
  · refine ⟨[], rpL_one ⟨?_, fun l e => by cases e⟩, by simp, fun y hy => by cases hy⟩
    exact .fz (cap := 0) (b := 0) (off := 0) (cs := fun _ => []) (Nat.le_refl _) (by unfold maxLen; omega) (fun x hx => by cases hx) (fun _ => ⟨rfl, rfl⟩) (fun h => absurd rfl h) (fun j hj => absurd hj (Nat.not_lt_zero _)) (fun j e he => by cases he) (fun _ e he => by cases he) (fun j q u hj => absurd hj (Nat.not_lt_zero _))
  · simp only [if_true] at hmm
    subst hmm
    have hwl : (len + (m - len)) * B ≤ reachBytes := by
      have := hw ((((List.range len).map D).length + ((List.range (m - len)).map fun j => D (len + j)).length) * P.bytesOf e) (by simp [DataW.weights, ht])
      rw [List.length_map, List.length_map, List.length_range, List.length_range, hB] at this
      exact this
    have each : ∀ i, i < len → ∃ y : α × List Value, W.cells? 0 (a.add (i * P.cellsOf e)) (P.cellsOf e) = some y.2 ∧ RpL W (f y.1) y.2 ∧ wf y.1 := by
      intro i hi
      obtain ⟨cs', hc, htr⟩ := hx i (by omega)
      obtain ⟨y, hy, hwy⟩ := he.out enc W n cs' (D i, Pl i) (fun q hq => hw q (by
        simp only [DataW.weights, ht, List.mem_cons, List.mem_append]
        exact .inr (.inl (weightsAll_mem (List.mem_map.2 ⟨i, List.mem_range.2 hi, rfl⟩) hq)))) htr
      exact ⟨(y, cs'), hc, hy, hwy⟩
    obtain ⟨L, hll, hp⟩ := exists_list len _ each
    have hcell : ∀ (j q : Nat) (u : Value) (y : α × List Value), L[j]? = some y → y.2[q]? = some u → W.cell? ⟨a.block, a.off + (j * sz + q), none⟩ = some u ∧ a.block < W.heap.size ∧ (j * sz + q = 0 → a.spot = none) := by
      intro j q u y hy hu
      obtain ⟨hc, _, _⟩ := hp j y hy
      obtain ⟨_, hlen, hcell⟩ := World.cells?_some hc
      have hq : q < P.cellsOf e := by have := (List.getElem?_eq_some_iff.1 hu).1; omega
      have h1 := hcell q hq
      rw [hu, hz] at h1
      obtain ⟨h2, h3⟩ := cell_old h1
      have hadd : ((a.add (j * sz)).add q).block = a.block := by unfold Addr.add; split <;> split <;> rfl
      rw [hadd] at h2
      refine ⟨?_, h2, fun h0 => ?_⟩
      · rw [← h1]
        congr 1
        revert h3
        obtain ⟨ab, ao, asp⟩ := a
        unfold Addr.add
        by_cases c1 : j * sz = 0
        · by_cases c2 : q = 0
          · subst c2; simp only [c1, if_true]; intro h3; subst h3; rfl
          · simp [c1, c2]
        · by_cases c2 : q = 0
          · simp [c1, c2]
          · simp [c1, c2, Nat.add_assoc]
      · have c1 : j * sz = 0 := by omega
        have c2 : q = 0 := by omega
        rw [c1, c2] at h3
        exact h3
    have hlenc : ∀ (j : Nat) (y : α × List Value), L[j]? = some y → y.2.length = sz := by
      intro j y hy
      obtain ⟨hc, _, _⟩ := hp j y hy
      obtain ⟨_, hlen, _⟩ := World.cells?_some hc
      rw [hlen, hz]
    have hget : ∀ j, j < len → ∃ y, L[j]? = some y := fun j hj => ⟨_, List.getElem?_eq_getElem (by omega)⟩
    have hspot : 0 < len → a = ⟨a.block, a.off, none⟩ ∧ a.block < W.heap.size := by
      intro h0
      obtain ⟨y, hy⟩ := hget 0 h0
      have hy2 := hlenc 0 y hy
      obtain ⟨_, h2, h3⟩ := hcell 0 0 (y.2[0]'(by omega)) y hy (List.getElem?_eq_getElem _)
      have h3 := h3 (by omega)
      obtain ⟨ab, ao, asp⟩ := a
      simp only at h3
      subst h3
      exact ⟨rfl, h2⟩
    have hmapl : ((L.map (·.1)).map el).length = len := by rw [List.length_map, List.length_map, hll]
    refine ⟨L.map (·.1), rpL_one ⟨?_, fun l e => by cases e⟩, ?_, fun x hx => ?_⟩
    · have : (.slice (some a) len m : Value) = .slice (some a) ((L.map (·.1)).map el).length m := by rw [hmapl]
      rw [this]
      refine .fz (b := a.block) (off := a.off) (cs := fun j => ((L[j]?).map (·.2)).getD []) (by omega) hm (fun x hx => by cases hx) (fun h => by cases h) (fun hne => ?_) (fun j hj => ?_) (fun j e' he' => ?_) (fun hdp e' he' => ?_) (fun j q u hj hu => ?_)
      · have h0 : 0 < len := by
          rcases Nat.eq_zero_or_pos len with h | h
          · rw [h] at hmapl; exact absurd (List.eq_nil_of_length_eq_zero hmapl) hne
          · exact h
        obtain ⟨h1, h2⟩ := hspot h0
        exact ⟨by rw [← h1], h2⟩
      · obtain ⟨y, hy⟩ := hget j (by omega)
        rw [hy]; exact hlenc j y hy
      · rw [List.getElem?_map, List.getElem?_map] at he'
        obtain ⟨y, hy⟩ := hget j (by
          cases hL : L[j]? with
          | none => rw [hL] at he'; cases he'
          | some y => have := lt_of_get hL; omega)
        rw [hy] at he' ⊢
        cases he'
        obtain ⟨_, hR, _⟩ := hp j y hy
        show Rp W (Old W) (el y.1) y.2 []
        rcases hel y.1 with h1 | h1
        · rw [h1]; exact rpL_agg hR
        · rw [h1] at hR
          have hl1 : y.2.length = 1 := hR.len
          obtain ⟨v, hv⟩ := List.length_eq_one_iff.1 hl1
          rw [hv] at hR ⊢
          exact (hR.each 0 _ v rfl rfl).rp
      · obtain ⟨x, hx, rfl⟩ := List.mem_map.1 he'
        exact hd hdp x
      · obtain ⟨y, hy⟩ := hget j (by omega)
        rw [hy] at hu
        exact (hcell j q u y hy hu).1
    · rw [List.length_map, hll]
      have : len * B ≤ (len + (m - len)) * B := Nat.mul_le_mul_right _ (by omega)
      exact Nat.le_trans this hwl
    · obtain ⟨y, hy, rfl⟩ := List.mem_map.1 hx
      obtain ⟨i, hi, rfl⟩ := List.mem_iff_getElem.1 hy
      exact (hp i _ (List.getElem?_eq_getElem hi)).2.2
/-- Fields from a place on. -/
structure Sg {α : Type} (P : Program) (off n : Nat) (fs : List Field) (f : α → List AV) (wf : α → Prop) : Prop where
  out : ∀ {H : Type} (enc : TypeId × Value → H) (W : World) (fuel : Nat) (cs : List Value) (ys : List (DataW H × List MemPlace)), cs.length = off + n → ys.length = fs.length →
    (∀ (i : Nat) (g : Field), fs[i]? = some g → DataW.trod enc P W 0 (fun _ => true) true fuel g.type ((cs.drop g.offset).take (P.cellsOf g.type)) = ys[i]?) →
    (∀ m ∈ DataW.weightsEach P (fs.map (·.type)) (ys.map (·.1)), m ≤ reachBytes) → ∃ a, RpL W (f a) (cs.drop off) ∧ wf a
theorem sg_one {α : Type} {P : Program} {off n : Nat} {g : Field} {f : α → List AV} {wf : α → Prop} (ho : g.offset = off) (hz : P.cellsOf g.type = n) (h : Rd P g.type f wf) : Sg P off n [g] f wf := by
  constructor
  intro H enc W fuel cs ys hl hy hf hw
  match ys, hy with
  | [y], _ =>
    have := hf 0 g rfl
    rw [ho, hz, List.take_of_length_le (by rw [List.length_drop]; omega)] at this
    exact h.out enc W fuel _ y (fun q hq => hw q (by simpa [DataW.weightsEach] using hq)) this
theorem sg_cons {α β : Type} {P : Program} {off n m : Nat} {g : Field} {fs : List Field} {f : α → List AV} {f' : β → List AV} {wf : α → Prop} {wf' : β → Prop} (ho : g.offset = off) (hz : P.cellsOf g.type = n) (h : Rd P g.type f wf) (hs : Sg P (off + n) m fs f' wf') :
    Sg P off (n + m) (g :: fs) (fun x : α × β => f x.1 ++ f' x.2) (fun x => wf x.1 ∧ wf' x.2) := by
  constructor
  intro H enc W fuel cs ys hl hy hf hw
  match ys, hy with
  | y :: ys, hy =>
    have h0 := hf 0 g rfl
    rw [ho, hz] at h0
    obtain ⟨a, ha, hwa⟩ := h.out enc W fuel _ y (fun q hq => hw q (by simp [DataW.weightsEach, hq])) h0
    obtain ⟨b, hb, hwb⟩ := hs.out enc W fuel cs ys (by omega) (by simpa using hy) (fun i k hk => hf (i + 1) k hk) (fun q hq => hw q (by simp only [List.map_cons, DataW.weightsEach, List.mem_append]; exact .inr hq))
    refine ⟨(a, b), ?_, hwa, hwb⟩
    have := rpL_app ha hb
    rwa [← List.drop_drop, List.take_append_drop] at this
theorem rd_struct {α : Type} {P : Program} {t : TypeId} {n : Nat} {fs : Array Field} {f : α → List AV} {wf : α → Prop} (ht : P.underlying t = some (.struct fs)) (hz : P.cellsOf t = n) (h : Sg P 0 n fs.toList f wf) : Rd P t f wf := by
  constructor
  intro H enc W fuel cs x hw hx
  obtain ⟨xs, k, rfl, rfl, hl, hn, hf⟩ := DataW.trod_struct ht hx
  refine h.out enc W k cs xs (by omega) (by simpa using hn) (fun i g hi => hf i g (by simpa using hi)) (fun q hq => hw q ?_)
  simp only [DataW.weights, ht]
  exact hq
theorem sized_each {H : Type} {P : Program} {ts : List TypeId} {ds : List (DataW H)} (h : (DataW.weightsEach P ts ds).all (· ≤ reachBytes) = true) {j : Nat} {t : TypeId} {d : DataW H} (ht : ts[j]? = some t) (hd : ds[j]? = some d) :
    ∀ n ∈ DataW.weights P t d, n ≤ reachBytes := fun n hn => by
  have := List.all_eq_true.1 h _ (DataW.weights_mem_each ht hd n hn)
  simpa using this
/-- An argument, whole. -/
theorem rw_agg {W : World} {l : List AV} {arr : Array Value} (h : RpL W l arr.toList) : RW W (Old W) (.agg l) (.agg arr) [] := ⟨arr, rfl, rpL_agg h⟩
theorem rw_sl {W : World} {nl : Option Bool} {sz : Nat} {dp : Bool} {l : List AV} {A : Option Addr} {n c : Nat} (h : RpL W [.sl none nl sz dp l] (Value.slice A n c).cells.toList) : RW W (Old W) (.sl none nl sz dp l) (.slice A n c) [] := (h.each 0 _ _ rfl rfl).rp
theorem rw_int {W : World} {k k' : IntKind} {n m : Int} (h : RpL W [.i k n] (Value.int k' m).cells.toList) : RW W (Old W) (.i k n) (.int k' m) [] := (h.each 0 _ _ rfl rfl).rp
theorem rw_bool {W : World} {b c : Bool} (h : RpL W [.b b] (Value.bool c).cells.toList) : RW W (Old W) (.b b) (.bool c) [] := (h.each 0 _ _ rfl rfl).rp
theorem rt_true {W : World} {F : Nat → Prop} {v : Value} {ts : List Nat} (h : RT W F (.b true) v ts) : v = .bool true := by
  have h : Rp W F (.b true) [v] ts := h
  cases h; rfl
end Go.Proofs.Ytcngjnhdemjomaa.T
namespace Go.Proofs.Ytcngjnhdemjomaa.T
set_option linter.unusedSimpArgs false
set_option linter.unusedVariables false
open Go
set_option linter.unusedVariables false
def RowW (l : List Int) : Prop := l.length ≤ 140737488351232 ∧ I32s l
theorem rdNum : Rd Try.prog 60 (fun n : Int => [.i .i32 n]) (fun n => IntKind.i32.min ≤ n ∧ n ≤ IntKind.i32.max) := rd_int Try.underlying60
theorem rdInt : Rd Try.prog 3 (fun n : Int => [.i .i64 n]) (fun n => IntKind.i64.min ≤ n ∧ n ≤ IntKind.i64.max) := rd_int Try.underlying3
theorem rdRow : Rd Try.prog 24 (fun l : List Int => [rowA none l]) RowW :=
  rd_map (fun l => l) (fun l => rfl) (fun l h => ⟨by omega, fun x hx => h.2 x hx⟩) (rd_slice (el := AV.i .i32) (B := 4) (sz := 1) (dp := false) Try.underlying24 (by kernel_rfl) (by decide) (by kernel_rfl) rdNum (fun a => .inr rfl) (fun _ a => rfl))
def IntsW (l : List Int) : Prop := l.length ≤ 140737488351232 ∧ ∀ x ∈ l, IntKind.i64.min ≤ x ∧ x ≤ IntKind.i64.max
theorem rdInts : Rd Try.prog 30 (fun l : List Int => [.sl none none 1 false (ints .i64 l)]) IntsW :=
  rd_map (fun l => l) (fun l => rfl) (fun l h => ⟨by omega, fun x hx => h.2 x hx⟩) (rd_slice (el := AV.i .i64) (B := 8) (sz := 1) (dp := false) Try.underlying30 (by kernel_rfl) (by decide) (by kernel_rfl) rdInt (fun a => .inr rfl) (fun _ a => rfl))
abbrev matL (m : MatD) : List AV := [.i .i64 m.r, .i .i64 m.c, rowA none m.d]
theorem rdMat : Rd Try.prog 26 matL (fun m => RowW m.d) :=
  rd_mapR (rd_struct Try.underlying26 (by kernel_rfl) (sg_cons (n := 1) rfl (by kernel_rfl) rdInt (sg_cons (n := 1) rfl (by kernel_rfl) rdInt (sg_one (n := 1) rfl (by kernel_rfl) rdRow)))) (fun x => (⟨x.1, x.2.1, x.2.2⟩ : MatD)) (fun _ => rfl) (fun _ h => h.2.2)
abbrev cfgL (c : Cfg) : List AV := [.i .i64 c.vocab, .i .i64 c.dim, .i .i64 c.heads, .i .i64 c.hidden, .i .i64 c.layers]
theorem rdCfg : Rd Try.prog 23 cfgL (fun _ => True) :=
  rd_mapR (rd_struct Try.underlying23 (by kernel_rfl) (sg_cons (n := 1) rfl (by kernel_rfl) rdInt (sg_cons (n := 1) rfl (by kernel_rfl) rdInt (sg_cons (n := 1) rfl (by kernel_rfl) rdInt (sg_cons (n := 1) rfl (by kernel_rfl) rdInt (sg_one (n := 1) rfl (by kernel_rfl) rdInt)))))) (fun x => (⟨x.1, x.2.1, x.2.2.1, x.2.2.2.1, x.2.2.2.2⟩ : Cfg)) (fun _ => rfl) (fun _ _ => trivial)
abbrev blkL (b : Blk) : List AV := [rowA none b.first, .i .i64 b.q.r, .i .i64 b.q.c, rowA none b.q.d, .i .i64 b.k.r, .i .i64 b.k.c, rowA none b.k.d, .i .i64 b.v.r, .i .i64 b.v.c, rowA none b.v.d, .i .i64 b.o.r, .i .i64 b.o.c, rowA none b.o.d, rowA none b.second, .i .i64 b.up.r, .i .i64 b.up.c, rowA none b.up.d, .i .i64 b.down.r, .i .i64 b.down.c, rowA none b.down.d]
structure BlkW (b : Blk) : Prop where
  i : BlkI b
  s : BlkS b
theorem rdBlk : Rd Try.prog 66 blkL BlkW :=
  rd_mapR (rd_struct Try.underlying66 (by kernel_rfl) (sg_cons (n := 1) rfl (by kernel_rfl) rdRow (sg_cons (n := 3) rfl (by kernel_rfl) rdMat (sg_cons (n := 3) rfl (by kernel_rfl) rdMat (sg_cons (n := 3) rfl (by kernel_rfl) rdMat (sg_cons (n := 3) rfl (by kernel_rfl) rdMat (sg_cons (n := 1) rfl (by kernel_rfl) rdRow (sg_cons (n := 3) rfl (by kernel_rfl) rdMat (sg_one (n := 3) rfl (by kernel_rfl) rdMat))))))))) (fun x => (⟨x.1, x.2.1, x.2.2.1, x.2.2.2.1, x.2.2.2.2.1, x.2.2.2.2.2.1, x.2.2.2.2.2.2.1, x.2.2.2.2.2.2.2⟩ : Blk)) (fun _ => rfl) (fun _ ⟨h1, h2, h3, h4, h5, h6, h7, h8⟩ => ⟨⟨h1.2, h2.2, h3.2, h4.2, h5.2, h6.2, h7.2, h8.2⟩, ⟨h1.1, h2.1, h3.1, h4.1, h5.1, h6.1, h7.1, h8.1⟩⟩)
abbrev wtsL (w : Wts) : List AV := [.i .i64 w.embed.r, .i .i64 w.embed.c, rowA none w.embed.d, .sl none none 20 true (gl (blkA none) w.blocks), rowA none w.last, .i .i64 w.out.r, .i .i64 w.out.c, rowA none w.out.d]
structure WtsW (w : Wts) : Prop where
  i : WtsI w
  s : WtsS w
theorem rdBlks : Rd Try.prog 27 (fun l : List Blk => [.sl none none 20 true (gl (blkA none) l)]) (fun l => l.length ≤ 140737488351232 ∧ ∀ b ∈ l, BlkW b) :=
  rd_map (fun l => l) (fun l => rfl) (fun l h => ⟨by omega, fun x hx => h.2 x hx⟩) (rd_slice (el := blkA none) (B := 288) (sz := 20) (dp := true) Try.underlying27 (by kernel_rfl) (by decide) (by kernel_rfl) rdBlk (fun a => .inl rfl) (fun h => by cases h))
theorem rdWts : Rd Try.prog 29 wtsL WtsW :=
  rd_mapR (rd_struct Try.underlying29 (by kernel_rfl) (sg_cons (n := 3) rfl (by kernel_rfl) rdMat (sg_cons (n := 1) rfl (by kernel_rfl) rdBlks (sg_cons (n := 1) rfl (by kernel_rfl) rdRow (sg_one (n := 3) rfl (by kernel_rfl) rdMat))))) (fun x => (⟨x.1, x.2.1, x.2.2.1, x.2.2.2⟩ : Wts)) (fun _ => rfl) (fun _ ⟨h1, h2, h3, h4⟩ => ⟨⟨h1.2, fun b hb => (h2.2 b hb).i, h3.2, h4.2⟩, ⟨h1.1, fun b hb => (h2.2 b hb).s, h2.1, h3.1, h4.1⟩⟩)
theorem rdU64 : Rd Try.prog 54 (fun n : Int => [.i .u64 n]) (fun n => IntKind.u64.min ≤ n ∧ n ≤ IntKind.u64.max) := rd_int Try.underlying54
end Go.Proofs.Ytcngjnhdemjomaa.T
namespace Go.Proofs.Ytcngjnhdemjomaa.T
set_option linter.unusedSimpArgs false
set_option linter.unusedVariables false
open Go
set_option linter.unusedVariables false
set_option maxHeartbeats 8000000
set_option maxRecDepth 100000
theorem cutM_cut (m : MatD) : cutM (cutM m) = cutM m := by unfold cutM; simp [List.take_take]
theorem cutB_cut (b : Blk) : cutB 5000 (cutB 100 b) = cutB 100 b := by unfold cutB; simp [cutM_cut, List.take_take]
theorem cutW_cut (w : Wts) : cutW 5000 (cutW 100 5 w).blocks.length (cutW 100 5 w) = cutW 100 5 w := by
  unfold cutW
  simp only [cutM_cut, List.take_length, List.map_map, List.take_take]
  congr 1
  refine List.map_congr_left fun b _ => ?_
  exact cutB_cut b
theorem i32s_take {l : List Int} (h : I32s l) (n : Nat) : I32s (l.take n) := fun x hx => h x (List.mem_of_mem_take hx)
theorem cutW_i {w : Wts} (h : WtsI w) : WtsI (cutW 100 5 w) := by
  refine ⟨i32s_take h.embed _, fun b hb => ?_, i32s_take h.last _, i32s_take h.out _⟩
  obtain ⟨b0, hb0, rfl⟩ := List.mem_map.1 hb
  have := h.blocks b0 (List.mem_of_mem_take hb0)
  exact ⟨i32s_take this.first _, i32s_take this.q _, i32s_take this.k _, i32s_take this.v _, i32s_take this.o _, i32s_take this.second _, i32s_take this.up _, i32s_take this.down _⟩
theorem take_le (l : List Int) (n : Nat) (hn : n ≤ 1000000) : (l.take n).length ≤ 140737488351232 := by rw [List.length_take]; omega
theorem cutW_s (w : Wts) : WtsS (cutW 100 5 w) := by
  refine ⟨take_le _ _ (by decide), fun b hb => ?_, ?_, take_le _ _ (by decide), take_le _ _ (by decide)⟩
  · obtain ⟨b0, hb0, rfl⟩ := List.mem_map.1 hb
    exact ⟨take_le _ _ (by decide), take_le _ _ (by decide), take_le _ _ (by decide), take_le _ _ (by decide), take_le _ _ (by decide), take_le _ _ (by decide), take_le _ _ (by decide), take_le _ _ (by decide)⟩
  · show ((w.blocks.take 5).map _).length ≤ _
    rw [List.length_map, List.length_take]; omega
theorem cutW_l (w : Wts) : (cutW 100 5 w).blocks.length ≤ 5 := by
  show ((w.blocks.take 5).map _).length ≤ _
  rw [List.length_map, List.length_take]; omega
theorem keys_small {D H s : Nat} {w : Wts} {t : List Int} (hl : w.blocks.length ≤ 1000) (ht : t.length ≤ 1000) (hD : D ≤ 1000) : (sKeys D H s w t).length ≤ 1000000000000 ∧ ∀ x ∈ sKeys D H s w t, x.length ≤ 1000000000000 ∧ ∀ y ∈ x, y.length ≤ 1000000000000 := by
  unfold sKeys
  rw [mp_len]
  refine ⟨by omega, fun x hx => ?_⟩
  obtain ⟨l, hl2, rfl⟩ := mem_mp hx
  rw [mp_len]
  refine ⟨by omega, fun y hy => ?_⟩
  obtain ⟨i, hi, rfl⟩ := mem_mp hy
  unfold kF
  split
  · unfold sK; rw [sApply_len]; omega
  · simp
theorem vals_small {D H s : Nat} {w : Wts} {t : List Int} (hl : w.blocks.length ≤ 1000) (ht : t.length ≤ 1000) (hD : D ≤ 1000) : (sVals D H s w t).length ≤ 1000000000000 ∧ ∀ x ∈ sVals D H s w t, x.length ≤ 1000000000000 ∧ ∀ y ∈ x, y.length ≤ 1000000000000 := by
  unfold sVals
  rw [mp_len]
  refine ⟨by omega, fun x hx => ?_⟩
  obtain ⟨l, hl2, rfl⟩ := mem_mp hx
  rw [mp_len]
  refine ⟨by omega, fun y hy => ?_⟩
  obtain ⟨i, hi, rfl⟩ := mem_mp hy
  unfold vF
  split
  · unfold sV; rw [sApply_len]; omega
  · simp
def ePassFull : Env := ⟨tbl, [], [], [], [(0, [2, 3, 4, 4999, 4000, 4001, 4002, 4003, 4004, 5999, 5000, 5001, 5002, 5003, 5004, 5005, 5006, 5007]), (1, [2, 3, 7, 4999, 4000, 4001, 4002, 4003, 4004, 8999, 8000, 8001, 8002, 8003, 8004, 8005, 8006, 8007]), (2, [2, 3, 7, 8, 4999, 4000, 4001, 4002, 4003, 4004, 8999, 8000, 8001, 8002, 8003, 8004, 8005, 8006, 8007, 9999, 9000, 9001, 9002, 9003, 9004, 9005, 9006, 9007]), (3, [2, 3, 7, 8, 9, 4999, 4000, 4001, 4002, 4003, 4004, 8999, 8000, 8001, 8002, 8003, 8004, 8005, 8006, 8007, 9999, 9000, 9001, 9002, 9003, 9004, 9005, 9006, 9007]), (4, [2, 3, 7, 8, 9, 21, 4999, 4000, 4001, 4002, 4003, 4004, 8999, 8000, 8001, 8002, 8003, 8004, 8005, 8006, 8007, 9999, 9000, 9001, 9002, 9003, 9004, 9005, 9006, 9007]), (5, [2, 3, 7, 8, 9, 4999, 4000, 4001, 4002, 4003, 4004, 8999, 8000, 8001, 8002, 8003, 8004, 8005, 8006, 8007, 9999, 9000, 9001, 9002, 9003, 9004, 9005, 9006, 9007]), (6, [2, 3, 7, 8, 4999, 4000, 4001, 4002, 4003, 4004, 8999, 8000, 8001, 8002, 8003, 8004, 8005, 8006, 8007, 9999, 9000, 9001, 9002, 9003, 9004, 9005, 9006, 9007]), (7, [2, 3, 7, 10, 11, 12, 4999, 4000, 4001, 4002, 4003, 4004, 8999, 8000, 8001, 8002, 8003, 8004, 8005, 8006, 8007, 12999, 12000, 12001]), (8, [2, 3, 7, 10, 11, 12, 13, 4999, 4000, 4001, 4002, 4003, 4004, 8999, 8000, 8001, 8002, 8003, 8004, 8005, 8006, 8007, 12999, 12000, 12001]), (9, [2, 3, 7, 10, 11, 12, 13, 37, 4999, 4000, 4001, 4002, 4003, 4004, 8999, 8000, 8001, 8002, 8003, 8004, 8005, 8006, 8007, 12999, 12000, 12001]), (10, [2, 3, 7, 10, 11, 12, 13, 4999, 4000, 4001, 4002, 4003, 4004, 8999, 8000, 8001, 8002, 8003, 8004, 8005, 8006, 8007, 12999, 12000, 12001]), (11, [2, 3, 7, 10, 11, 13, 47, 4999, 4000, 4001, 4002, 4003, 4004, 8999, 8000, 8001, 8002, 8003, 8004, 8005, 8006, 8007, 12999, 12000, 12001]), (12, [6]), (13, [2, 3, 7, 10, 11, 49, 4999, 4000, 4001, 4002, 4003, 4004, 8999, 8000, 8001, 8002, 8003, 8004, 8005, 8006, 8007, 12999, 12000, 12001]), (14, [6]), (15, [7, 10, 11, 14, 8999, 8000, 8001, 8002, 8003, 8004, 8005, 8006, 8007, 12999, 12000, 12001, 15999, 15000, 15001, 15002]), (16, [6])]⟩
theorem passfull_law (c : Cfg) (w : Wts) (t : List Int) (hw : WtsW w) (ht : IntsW t) : Impl Try.prog 3 [cfgA c, wtsA none none w, .sl none none 1 false (ints .i64 t)] (.b true) := by
  have hT := told_ok hw.s
  have hi := cutW_i hw.i
  have hs := cutW_s w
  have hl5 := cutW_l w
  have hO := of6_ok hs (by omega)
  rw [cutW_cut] at hO
  generalize cutW 100 5 w = w1 at *
  obtain ⟨sc, m, hsm, h0, h1⟩ : ∃ (sc : Int) (m : Nat), Impl Try.prog 15 [cfgA c] (.i .i64 sc) ∧ (sc = 0 → m = 2) ∧ (sc ≠ 0 → m = 10) := by
    have := small_ok c
    by_cases h : small c
    · rw [if_pos h] at this; exact ⟨1, 10, this, fun h => absurd h (by decide), fun _ => rfl⟩
    · rw [if_neg h] at this; exact ⟨0, 2, this, fun _ => rfl, fun h => absurd rfl h⟩
  have hm10 : m ≤ 10 := by by_cases h : sc = 0 <;> simp [h0, h1, h]
  have hF : ∀ {no : Option Bool} (k : Int), k = m → Impl Try.prog 16 [.sl none no 1 false (ints .i64 t), .i .i64 k] (.sl (some 0) none 1 false (ints .i64 (t.take m))) := fun {no} k hk => by rw [hk]; exact few8_ok m ht.1 (by omega)
  have htl : (t.take m).length ≤ 10 := by rw [List.length_take]; omega
  generalize t.take m = t1 at *
  have hC := rcheck6_ok c w1 (by omega)
  have hP : ∀ {nt : Option Bool}, Impl Try.prog 19 [cfgA c, .sl none nt 1 false (ints .i64 t1)] (.i .i64 (prm c.vocab t1)) := fun {nt} => rprompt_ok c (by omega)
  by_cases hk : chkW c w1 = 0
  · by_cases hp : prm c.vocab t1 = 0
    · obtain ⟨V, D, n, H, L, s, hc⟩ := shp_good (chkW_zero hk).1
      have hg := wts_good hc (chkW_zero hk).2 hi
      have hFu := fun {nt : Option Bool} => full_good (nt := nt) hc hg hp
      have hRF := fun {nt : Option Bool} => rfull_good (nt := nt) hc hg hp
      have hRL := rlikes_good (K := sKeys D H s w1 t1) (W := sVals D H s w1 t1) hc hg hp
      have hks := keys_small (D := D) (H := H) (s := s) (w := w1) (t := t1) (by omega) (by omega) (by have := hc.gd; omega)
      have hvs := vals_small (D := D) (H := H) (s := s) (w := w1) (t := t1) (by omega) (by omega) (by have := hc.gd; omega)
      have hfl : (sFull V D H s w1 t1).length ≤ 1000000000000 := by unfold sFull sLikes; rw [sApply_len]; have := hc.gv; omega
      rw [hk] at hC
      rw [hp] at hP
      generalize sFull V D H s w1 t1 = fu at *
      generalize pR D H s L w1 (fB D w1 t1) t1.length = pr at *
      generalize sKeys D H s w1 t1 = ks at *
      generalize sVals D H s w1 t1 = vs at *
      clear hg hc hw ht hi hs
      refine impl_of (fn := Try.f3) tbl_ok (by kernel_rfl) (by kernel_rfl) rfl ⟨by simp [Try.f3], by decide⟩ rfl fun W0 => ?_
      repeat' first
        | (apply WP.cutcM 21 [9, 21] [(9, .i .i64 m)]; (conv => whnf); apply And.intro)
        | apply WP.seq
        | (apply WP.region (E := ePassFull) mixed tbl_ok; conv => whnf)
        | (apply WP.cond; conv => whnf)
        | (apply WP.skip; conv => whnf)
        | (apply WP.ret; conv => whnf)
        | (rw [fz_blks]; conv => whnf)
        | (rw [fz_rowsN]; conv => whnf)
        | (rw [decide_eq_true (rfl : fu = fu)]; conv => whnf)
        | (rw [decide_eq_true (rfl : ks = ks)]; conv => whnf)
        | (rw [decide_eq_true (rfl : vs = vs)]; conv => whnf)
        | (apply reg_and; (· kernel_rfl); conv => whnf)
        | (apply ptr_and; (· kernel_rfl); conv => whnf)
        | (apply ex_and; (· with_reducible exact hT); conv => whnf)
        | (apply ex_and; (· with_reducible exact hO); conv => whnf)
        | (apply ex_and; (· with_reducible exact hF _ (by omega)); conv => whnf)
        | (apply ex_and; (· with_reducible exact hC); conv => whnf)
        | (apply ex_and; (· with_reducible exact hP); conv => whnf)
        | (apply ex_and; (· with_reducible exact hFu); conv => whnf)
        | (apply ex_and; (· with_reducible exact awake8_ok); conv => whnf)
        | (apply ex_and; (· with_reducible exact hsm); conv => whnf)
        | (apply ex_and; (· with_reducible exact hRF); conv => whnf)
        | (apply ex_and; (· with_reducible exact hRL); conv => whnf)
        | (apply ex_and; (· with_reducible exact same3_ok hfl); conv => whnf)
        | (apply ex_and; (· with_reducible exact same8_ok hks.1 hks.2); conv => whnf)
        | (apply ex_and; (· with_reducible exact same8_ok hvs.1 hvs.2); conv => whnf)
        | (apply ex_eq; conv => whnf)
        | ((with_reducible apply gd_t); conv => whnf)
        | ((with_reducible apply gd_nt); conv => whnf)
        | (apply And.intro; (· first | with_reducible rfl | exact trivial | exact Or.inl ⟨rfl, rfl⟩ | exact Or.inr rfl | decide | omega | (apply Nat.le_of_ble_eq_true; rfl) | (dsimp only; omega) | (simp only [ints_len, gl_len, mp_len, List.length_cons, List.length_nil, List.length_drop, List.length_take]; omega)); conv => whnf)
        | apply br_not
        | (apply br_t; conv => whnf)
        | (apply br_dec <;> intro hbr <;> (first | rw [decide_eq_true hbr] | rw [decide_eq_false hbr] | skip) <;> conv => whnf)
        | fail
      · repeat' first
          | apply True.intro
          | omega
          | (apply Or.inr; rfl)
          | (apply or_row; (· rfl); (· rfl); rfl)
          | (apply And.intro <;> conv => whnf)
          | fail
      · repeat' first
          | apply True.intro
          | omega
          | (apply Or.inr; rfl)
          | (apply or_row; (· rfl); (· rfl); rfl)
          | (apply And.intro <;> conv => whnf)
          | fail
    · have hFu : ∀ {nt : Option Bool}, Impl Try.prog 17 [cfgA c, wtsA none none w1, .sl none nt 1 false (ints .i64 t1)] (.tup [rowA (some 0) [], .agg [rows3 (some 0) [], rows3 (some 0) []], .i .i64 (prm c.vocab t1)]) := fun {nt} => full_prm (by omega) (by omega) hk hp
      rw [hk] at hC
      generalize prm c.vocab t1 = k at *
      refine impl_of (fn := Try.f3) tbl_ok (by kernel_rfl) (by kernel_rfl) rfl ⟨by simp [Try.f3], by decide⟩ rfl fun W0 => ?_
      repeat' first
        | (apply WP.cutcM 21 [9, 21] [(9, .i .i64 m)]; (conv => whnf); apply And.intro)
        | apply WP.seq
        | (apply WP.region (E := ePassFull) mixed tbl_ok; conv => whnf)
        | (apply WP.cond; conv => whnf)
        | (apply WP.skip; conv => whnf)
        | (apply WP.ret; conv => whnf)
        | (rw [fz_blks]; conv => whnf)
        | (apply reg_and; (· kernel_rfl); conv => whnf)
        | (apply ptr_and; (· kernel_rfl); conv => whnf)
        | (apply ex_and; (· with_reducible exact hT); conv => whnf)
        | (apply ex_and; (· with_reducible exact hO); conv => whnf)
        | (apply ex_and; (· with_reducible exact hF _ (by omega)); conv => whnf)
        | (apply ex_and; (· with_reducible exact hC); conv => whnf)
        | (apply ex_and; (· with_reducible exact hP); conv => whnf)
        | (apply ex_and; (· with_reducible exact hFu); conv => whnf)
        | (apply ex_and; (· with_reducible exact awake8_ok); conv => whnf)
        | (apply ex_and; (· with_reducible exact hsm); conv => whnf)
        | (apply ex_ilen; conv => whnf)
        | (apply ex_glen; conv => whnf)
        | (apply ex_eq; conv => whnf)
        | ((with_reducible apply gd_nt); conv => whnf)
        | (apply gd_br)
        | (apply And.intro; (· first | with_reducible rfl | exact trivial | exact Or.inl ⟨rfl, rfl⟩ | exact Or.inr rfl | decide | omega | (apply Nat.le_of_ble_eq_true; rfl) | (dsimp only; omega) | (simp only [ints_len, gl_len, mp_len, List.length_cons, List.length_nil, List.length_drop, List.length_take]; omega)); conv => whnf)
        | apply br_not
        | (apply br_t; conv => whnf)
        | (apply br_yes; (· omega); conv => whnf)
        | (apply br_no; (· omega); conv => whnf)
        | (apply br_dec <;> intro hbr <;> (first | rw [decide_eq_true hbr] | rw [decide_eq_false hbr] | skip) <;> conv => whnf)
        | fail
      · repeat' first
          | apply True.intro
          | omega
          | (apply Or.inr; rfl)
          | (apply or_row; (· rfl); (· rfl); rfl)
          | (apply And.intro <;> conv => whnf)
          | fail
      · repeat' first
          | apply True.intro
          | omega
          | (apply Or.inr; rfl)
          | (apply or_row; (· rfl); (· rfl); rfl)
          | (apply And.intro <;> conv => whnf)
          | fail
      · rfl
  · have hFu : ∀ {nt : Option Bool}, Impl Try.prog 17 [cfgA c, wtsA none none w1, .sl none nt 1 false (ints .i64 t1)] (.tup [rowA (some 0) [], .agg [rows3 (some 0) [], rows3 (some 0) []], .i .i64 (chkW c w1)]) := fun {nt} => full_err (by omega) hk
    clear hP
    generalize chkW c w1 = k at *
    refine impl_of (fn := Try.f3) tbl_ok (by kernel_rfl) (by kernel_rfl) rfl ⟨by simp [Try.f3], by decide⟩ rfl fun W0 => ?_
    repeat' first
      | (apply WP.cutcM 21 [9, 21] [(9, .i .i64 m)]; (conv => whnf); apply And.intro)
      | apply WP.seq
      | (apply WP.region (E := ePassFull) mixed tbl_ok; conv => whnf)
      | (apply WP.cond; conv => whnf)
      | (apply WP.skip; conv => whnf)
      | (apply WP.ret; conv => whnf)
      | (rw [fz_blks]; conv => whnf)
      | (apply reg_and; (· kernel_rfl); conv => whnf)
      | (apply ptr_and; (· kernel_rfl); conv => whnf)
      | (apply ex_and; (· with_reducible exact hT); conv => whnf)
      | (apply ex_and; (· with_reducible exact hO); conv => whnf)
      | (apply ex_and; (· with_reducible exact hF _ (by omega)); conv => whnf)
      | (apply ex_and; (· with_reducible exact hC); conv => whnf)
      | (apply ex_and; (· with_reducible exact hFu); conv => whnf)
      | (apply ex_and; (· with_reducible exact awake8_ok); conv => whnf)
      | (apply ex_and; (· with_reducible exact hsm); conv => whnf)
      | (apply ex_ilen; conv => whnf)
      | (apply ex_glen; conv => whnf)
      | (apply ex_eq; conv => whnf)
      | ((with_reducible apply gd_nt); conv => whnf)
      | (apply gd_br)
      | (apply And.intro; (· first | with_reducible rfl | exact trivial | exact Or.inl ⟨rfl, rfl⟩ | exact Or.inr rfl | decide | omega | (apply Nat.le_of_ble_eq_true; rfl) | (dsimp only; omega) | (simp only [ints_len, gl_len, mp_len, List.length_cons, List.length_nil, List.length_drop, List.length_take]; omega)); conv => whnf)
      | apply br_not
      | (apply br_t; conv => whnf)
      | (apply br_yes; (· omega); conv => whnf)
      | (apply br_no; (· omega); conv => whnf)
      | (apply br_dec <;> intro hbr <;> (first | rw [decide_eq_true hbr] | rw [decide_eq_false hbr] | skip) <;> conv => whnf)
      | fail
    · repeat' first
        | apply True.intro
        | omega
        | (apply Or.inr; rfl)
        | (apply or_row; (· rfl); (· rfl); rfl)
        | (apply And.intro <;> conv => whnf)
        | fail
    · repeat' first
        | apply True.intro
        | omega
        | (apply Or.inr; rfl)
        | (apply or_row; (· rfl); (· rfl); rfl)
        | (apply And.intro <;> conv => whnf)
        | fail
    · rfl
end Go.Proofs.Ytcngjnhdemjomaa.T
namespace Go.Proofs.Ytcngjnhdemjomaa.T
set_option linter.unusedSimpArgs false
set_option linter.unusedVariables false
open Go
set_option linter.unusedVariables false
set_option maxHeartbeats 8000000
set_option maxRecDepth 100000
theorem make_goodC {c : Cfg} {V D n H L s : Nat} (hc : CfgG c V D n H L s) {seed : Int} (h : IntKind.u64.min ≤ seed ∧ seed ≤ IntKind.u64.max) : Impl Try.prog 25 [cfgA c, .i .u64 seed] (.tup [wtsA (some 0) none (sMake seed V D H L), .i .i64 0]) := by
  have hs := shp_of hc
  obtain ⟨c1, c2, c3, c4, c5⟩ := c
  obtain ⟨g1, g2, g3, g4, g5, g6⟩ := hc
  obtain ⟨rfl, h1⟩ := g1
  obtain ⟨rfl, h2⟩ := g2
  obtain ⟨rfl, h3⟩ := g3
  obtain ⟨rfl, h4⟩ := g4
  obtain ⟨rfl, h5⟩ := g5
  have e : stN seed 0 = seed := by
    have h1 : IntKind.u64.min = 0 := rfl
    have h2 : IntKind.u64.max = 18446744073709551615 := rfl
    unfold stN
    rw [IntKind.wrap_u64]
    omega
  have := make_ok (seed := seed) hs h1.2 h2.2 h4.2 h5.2
  rwa [e] at this
/-- What comes ahead hangs on what comes ahead alone. -/
theorem X_pre {D H s : Nat} {w : Wts} {F F' : Nat → List Int} {m : Nat} (h : ∀ i, i < m → F i = F' i) : ∀ l i, i < m → X D H s w F l i = X D H s w F' l i
  | 0, i, hi => h i hi
  | l + 1, i, hi => by
    have ih := X_pre (D := D) (H := H) (s := s) (w := w) h l
    show (match w.blocks[l]? with | some b => lx D H s b (X D H s w F l) i | none => []) = (match w.blocks[l]? with | some b => lx D H s b (X D H s w F' l) i | none => [])
    cases w.blocks[l]? with
    | none => rfl
    | some b =>
      show lx D H s b (X D H s w F l) i = lx D H s b (X D H s w F' l) i
      unfold lx
      rw [ih i hi, mp_congr fun j hj => by rw [ih j (by omega)], mp_congr (F := fun j => sV D b (X D H s w F l j)) fun j hj => by rw [ih j (by omega)]]
theorem fB_take {D : Nat} {w : Wts} {t : List Int} {n : Nat} (hn : n ≤ t.length) : ∀ i, i < n → fB D w t i = fB D w (t.take n) i := fun i hi => by
  unfold fB
  congr 2
  rw [List.getD_eq_getElem?_getD, List.getD_eq_getElem?_getD, List.getElem?_take, if_pos hi]
theorem keys_take {D H s : Nat} {w : Wts} {t : List Int} {n : Nat} (hn : n ≤ t.length) (l : Nat) : (mp t.length (kF D H s w (fB D w t) l)).take n = mp n (kF D H s w (fB D w (t.take n)) l) := by
  rw [mp_take hn]
  refine mp_congr fun i hi => ?_
  unfold kF
  rw [X_pre (fB_take hn) l i hi]
theorem vals_take {D H s : Nat} {w : Wts} {t : List Int} {n : Nat} (hn : n ≤ t.length) (l : Nat) : (mp t.length (vF D H s w (fB D w t) l)).take n = mp n (vF D H s w (fB D w (t.take n)) l) := by
  rw [mp_take hn]
  refine mp_congr fun i hi => ?_
  unfold vF
  rw [X_pre (fB_take hn) l i hi]
def ePassBegins : Env := ⟨tbl, [66], [129, 139], [], [(0, [1, 2, 3, 4, 5999, 5000, 5001, 5002, 5003, 5004]), (1, [1, 2, 3, 4, 5999, 5000, 5001, 5002, 5003, 5004]), (2, [2, 3, 4, 9, 10, 5999, 5000, 5001, 5002, 5003, 5004, 10999, 10000, 10001, 10002, 10003, 10004, 10005, 10006, 10007]), (3, [2, 3, 4, 9, 50, 5999, 5000, 5001, 5002, 5003, 5004, 10999, 10000, 10001, 10002, 10003, 10004, 10005, 10006, 10007]), (4, [8]), (5, [2, 3, 4, 9, 12, 13, 5999, 5000, 5001, 5002, 5003, 5004, 10999, 10000, 10001, 10002, 10003, 10004, 10005, 10006, 10007, 13999, 13000, 13001]), (6, [2, 3, 4, 12, 13, 15, 16, 5999, 5000, 5001, 5002, 5003, 5004, 13999, 13000, 13001, 16999, 16000, 16001]), (7, [2, 3, 12, 15, 91, 13999, 13000, 13001, 16999, 16000, 16001]), (8, [8]), (9, [2, 3, 12, 15, 17, 18, 13999, 13000, 13001, 16999, 16000, 16001]), (10, [2, 3, 12, 15, 17, 18, 96, 97, 13999, 13000, 13001, 16999, 16000, 16001]), (11, [2, 3, 12, 15, 17, 18, 96, 97, 98, 13999, 13000, 13001, 16999, 16000, 16001]), (12, [2, 3, 12, 15, 17, 18, 19, 96, 97, 13999, 13000, 13001, 16999, 16000, 16001]), (13, [2, 3, 12, 15, 17, 18, 19, 96, 97, 119, 13999, 13000, 13001, 16999, 16000, 16001]), (14, [8]), (15, [2, 3, 12, 15, 17, 18, 19, 96, 97, 13999, 13000, 13001, 16999, 16000, 16001]), (16, [2, 3, 12, 15, 17, 18, 96, 97, 13999, 13000, 13001, 16999, 16000, 16001]), (17, [2, 3, 12, 15, 17, 18, 96, 97, 13999, 13000, 13001, 16999, 16000, 16001]), (18, [8])]⟩
theorem passbegins_law (c : Cfg) (seed : Int) (t : List Int) (n : Int) (hseed : IntKind.u64.min ≤ seed ∧ seed ≤ IntKind.u64.max) (ht : IntsW t) (hn : IntKind.i64.min ≤ n ∧ n ≤ IntKind.i64.max) : Impl Try.prog 4 [cfgA c, .i .u64 seed, .sl none none 1 false (ints .i64 t), .i .i64 n] (.b true) := by
  have hF : ∀ {no : Option Bool}, Impl Try.prog 16 [.sl none no 1 false (ints .i64 t), .i .i64 8] (.sl (some 0) none 1 false (ints .i64 (t.take 8))) := fun {no} => few8_ok 8 ht.1 (by omega)
  have htl : (t.take 8).length ≤ 8 := by rw [List.length_take]; omega
  generalize t.take 8 = t1 at *
  obtain ⟨sc, hsm, h0⟩ : ∃ (sc : Int), Impl Try.prog 15 [cfgA c] (.i .i64 sc) ∧ (sc = 0 ∨ sc = 1) := by
    have := small_ok c
    by_cases h : small c
    · rw [if_pos h] at this; exact ⟨1, this, .inr rfl⟩
    · rw [if_neg h] at this; exact ⟨0, this, .inl rfl⟩
  have hP : ∀ {nt : Option Bool}, Impl Try.prog 26 [cfgA c, .sl none nt 1 false (ints .i64 t1)] (.i .i64 (prm c.vocab t1)) := fun {nt} => prompt_ok c (by omega)
  by_cases hsh : shp c = 0
  · obtain ⟨V, D, nh, H, L, s, hc⟩ := shp_good hsh
    have hM := make_goodC hc hseed
    have hg : WtsG V D H L (sMake seed V D H L) := make_good (by have := hc.gv; omega) hc.gd.2 hc.gh.2
    generalize sMake seed V D H L = w at *
    by_cases hok : sc ≠ 0 ∧ prm c.vocab t1 = 0 ∧ 1 ≤ n ∧ n ≤ t1.length
    · obtain ⟨k1, k2, k3, k4⟩ := hok
      obtain ⟨q, rfl⟩ : ∃ q : Nat, n = q := ⟨n.toNat, by omega⟩
      have p3 := prm_zero k2
      have hp2 : prm c.vocab (t1.take q) = 0 := prm_good (by rw [List.length_take]; omega) (by rw [List.length_take]; omega) fun j hj => by
        rw [List.length_take] at hj
        have := p3.2.2 _ (getD_mem (l := t1) (i := j) (by omega) 0)
        rwa [List.getD_eq_getElem?_getD, List.getElem?_take, if_pos (by omega), ← List.getD_eq_getElem?_getD]
      have hA := fun {nt : Option Bool} => full_good (nt := nt) hc hg k2
      have hS := fun {nt : Option Bool} => full_good (nt := nt) hc hg hp2
      have hlay := hg.layers
      have e1 : sKeys D H s w (t1.take q) = mp L fun l => mp q (kF D H s w (fB D w (t1.take q)) l) := by unfold sKeys; rw [hlay, List.length_take, Nat.min_eq_left (by omega)]
      have e2 : sVals D H s w (t1.take q) = mp L fun l => mp q (vF D H s w (fB D w (t1.take q)) l) := by unfold sVals; rw [hlay, List.length_take, Nat.min_eq_left (by omega)]
      have hks := keys_small (D := D) (H := H) (s := s) (w := w) (t := t1.take q) (by have := hc.gl; omega) (by rw [List.length_take]; omega) (by have := hc.gd; omega)
      have hvs := vals_small (D := D) (H := H) (s := s) (w := w) (t := t1.take q) (by have := hc.gl; omega) (by rw [List.length_take]; omega) (by have := hc.gd; omega)
      rw [e1] at hS hks
      rw [e2] at hS hvs
      have hkl : (sKeys D H s w t1).length = L := by unfold sKeys; rw [mp_len]; exact hlay
      have hvl : (sVals D H s w t1).length = L := by unfold sVals; rw [mp_len]; exact hlay
      have hkat : ∀ l, l < L → (gl (rowsA none) (sKeys D H s w t1))[((l : Nat) : Int).toNat]? = some (rowsA none (mp t1.length (kF D H s w (fB D w t1) l))) := fun l hl => by
        rw [Int.toNat_natCast]; unfold sKeys gl mp; rw [List.getElem?_map, List.getElem?_map, List.getElem?_range (by omega)]; rfl
      have hvat : ∀ l, l < L → (gl (rowsA none) (sVals D H s w t1))[((l : Nat) : Int).toNat]? = some (rowsA none (mp t1.length (vF D H s w (fB D w t1) l))) := fun l hl => by
        rw [Int.toNat_natCast]; unfold sVals gl mp; rw [List.getElem?_map, List.getElem?_map, List.getElem?_range (by omega)]; rfl
      have hkt := fun l => keys_take (D := D) (H := H) (s := s) (w := w) (t := t1) (n := q) (by omega) l
      have hvt := fun l => vals_take (D := D) (H := H) (s := s) (w := w) (t := t1) (n := q) (by omega) l
      have hk1l := fun l => mp_len t1.length (kF D H s w (fB D w t1) l)
      have hv1l := fun l => mp_len t1.length (vF D H s w (fB D w t1) l)
      generalize (kF D H s w (fB D w (t1.take q))) = kq at *
      generalize (vF D H s w (fB D w (t1.take q))) = vq at *
      generalize (kF D H s w (fB D w t1)) = kt at *
      generalize (vF D H s w (fB D w t1)) = vt at *
      generalize sFull V D H s w t1 = fa at *
      generalize sFull V D H s w (t1.take q) = fs at *
      generalize sKeys D H s w t1 = ks at *
      generalize sVals D H s w t1 = vs at *
      obtain ⟨g1, g2, _, _, g5, _⟩ := hc
      have hcut : (t1.take ((q : Nat) : Int).toNat).drop (Int.toNat 0) = t1.take q := by rw [Int.toNat_natCast]; rfl
      refine impl_of (fn := Try.f4) tbl_ok (by kernel_rfl) (by kernel_rfl) rfl ⟨by simp [Try.f4], by decide⟩ rfl fun W0 => ?_
      repeat' first
        | apply WP.seq
        | (apply WP.region (E := ePassBegins) mixed tbl_ok; conv => whnf)
        | (apply WP.cond; conv => whnf)
        | (apply WP.skip; conv => whnf)
        | apply WP.block
        | (rw [fz_blks]; conv => whnf)
        | (rw [ints_cut, hcut]; conv => whnf)
        | (rw [fz_rows3]; conv => whnf)
        | (apply reg_and; (· kernel_rfl); conv => whnf)
        | (apply ex_and; (· with_reducible exact hF); conv => whnf)
        | (apply ex_and; (· with_reducible exact hM); conv => whnf)
        | (apply ex_and; (· with_reducible exact hsm); conv => whnf)
        | (apply ex_and; (· with_reducible exact hP); conv => whnf)
        | (apply ex_and; (· with_reducible exact hA); conv => whnf)
        | (apply ex_and; (· with_reducible exact hS); conv => whnf)
        | (apply ex_ilen; conv => whnf)
        | (apply ex_glen; conv => whnf)
        | (apply ex_eq; conv => whnf)
        | (apply gd_br)
        | (apply And.intro; (· first | with_reducible rfl | exact trivial | exact Or.inl ⟨rfl, rfl⟩ | exact Or.inr rfl | decide | omega | (apply Nat.le_of_ble_eq_true; rfl) | (dsimp only; omega) | (simp only [ints_len, gl_len, mp_len, List.length_cons, List.length_nil, List.length_drop, List.length_take]; omega)); conv => whnf)
        | apply br_not
        | (apply br_t; conv => whnf)
        | (apply br_yes; (· omega); conv => whnf)
        | (apply br_no; (· omega); conv => whnf)
        | fail
      refine WP.loopM [17, 18, 19, 97, 98, 119] (fun l : Nat => [(17, rows3 (some 0) (mp l fun l => mp q (kq l))), (18, rows3 (some 0) (mp l fun l => mp q (vq l))), (97, .i .i64 l)]) (fun l => l ≤ L) (fun l => L - l) 0 ?_
      conv => whnf
      refine And.intro (And.intro ?_ ?_) (fun l hl => ?_)
      · first | omega | trivial | skip
      · conv => whnf
        repeat' first
          | apply True.intro
          | (apply ptr_and; (· kernel_rfl); conv => whnf)
          | omega
          | (apply Or.inr; rfl)
          | (apply Or.inl; rfl)
          | (apply or_row; (· rfl); (· rfl); rfl)
          | (apply And.intro <;> conv => whnf)
          | fail
      conv => whnf
      have hkat := hkat l
      have hvat := hvat l
      have hcr : ∀ r : List (List Int), ((gl (rowA none) r).take ((q : Nat) : Int).toNat).drop (Int.toNat 0) = gl (rowA none) (r.take q) := fun r => by rw [gl_cut, Int.toNat_natCast]; rfl
      have hkt := hkt l
      have hvt := hvt l
      have hk1l := hk1l l
      have hv1l := hv1l l
      have hlL : l = L → (mp l fun l => mp q (kq l)) = (mp L fun l => mp q (kq l)) ∧ (mp l fun l => mp q (vq l)) = (mp L fun l => mp q (vq l)) := fun e => by rw [e]; exact ⟨rfl, rfl⟩
      have hsk : l = L → (mp l fun l => mp q (kq l)).length ≤ 1000000000000 ∧ ∀ x ∈ (mp l fun l => mp q (kq l)), x.length ≤ 1000000000000 ∧ ∀ y ∈ x, y.length ≤ 1000000000000 := fun e => by rw [e]; exact hks
      have hsv : l = L → (mp l fun l => mp q (vq l)).length ≤ 1000000000000 ∧ ∀ x ∈ (mp l fun l => mp q (vq l)), x.length ≤ 1000000000000 ∧ ∀ y ∈ x, y.length ≤ 1000000000000 := fun e => by rw [e]; exact hvs
      repeat' first
        | apply WP.seq
        | (apply WP.region (E := ePassBegins) mixed tbl_ok; conv => whnf)
        | (apply WP.cond; conv => whnf)
        | (apply WP.skip; conv => whnf)
        | (apply WP.ret; conv => whnf)
        | (apply WP.exit; conv => whnf)
        | apply WP.block
        | (apply ex_at (hkat (by omega)); conv => whnf)
        | (apply ex_at (hvat (by omega)); conv => whnf)
        | (rw [hcr]; conv => whnf)
        | (rw [hkt]; conv => whnf)
        | (rw [hvt]; conv => whnf)
        | (rw [fz_rows3]; conv => whnf)
        | (rw [decide_eq_true (hlL (by omega)).1]; conv => whnf)
        | (rw [decide_eq_true (hlL (by omega)).2]; conv => whnf)
        | (apply reg_and; (· kernel_rfl); conv => whnf)
        | (apply ex_and; (· with_reducible exact awake8_ok); conv => whnf)
        | (apply ex_and; (· with_reducible exact same8_ok (hsk (by omega)).1 (hsk (by omega)).2); conv => whnf)
        | (apply ex_and; (· with_reducible exact same8_ok (hsv (by omega)).1 (hsv (by omega)).2); conv => whnf)
        | (apply ex_ilen; conv => whnf)
        | (apply ex_glen; conv => whnf)
        | (apply ex_i64; (· omega); conv => whnf)
        | (apply ex_eq; conv => whnf)
        | ((with_reducible apply gd_t); conv => whnf)
        | (apply gd_br)
        | (apply nd_gl; (· omega); conv => whnf)
        | (apply And.intro; (· first | with_reducible rfl | exact trivial | exact Or.inl ⟨rfl, rfl⟩ | exact Or.inr rfl | decide | omega | (apply Nat.le_of_ble_eq_true; rfl) | (dsimp only; omega) | (simp only [ints_len, gl_len, mp_len, List.length_cons, List.length_nil, List.length_drop, List.length_take]; omega)); conv => whnf)
        | apply br_not
        | (apply br_yes; (· omega); conv => whnf)
        | (apply br_dec <;> intro hbr <;> (first | rw [decide_eq_true hbr] | rw [decide_eq_false hbr] | skip) <;> conv => whnf)
        | (rw [fz_rows]; conv => whnf)
        | fail
      · refine Exists.intro (l + 1) (And.intro (And.intro ?_ ?_) ?_)
        · first | omega | skip
        · first | omega | skip
        conv => whnf
        repeat' first
          | apply True.intro
          | (apply ptr_and; (· kernel_rfl); conv => whnf)
          | omega
          | (apply Or.inr; rfl)
          | (apply Or.inl; rfl)
          | (apply or_row; (· rfl); (· rfl); rfl)
          | (apply or_row; (· rfl); (· rfl); apply gl_mp; subst_vars; rfl)
          | (apply And.intro <;> conv => whnf)
          | fail
    · clear hg
      refine impl_of (fn := Try.f4) tbl_ok (by kernel_rfl) (by kernel_rfl) rfl ⟨by simp [Try.f4], by decide⟩ rfl fun W0 => ?_
      repeat' first
        | apply WP.seq
        | (apply WP.region (E := ePassBegins) mixed tbl_ok; conv => whnf)
        | (apply WP.cond; conv => whnf)
        | (apply WP.ret; conv => whnf)
        | (apply reg_and; (· kernel_rfl); conv => whnf)
        | (apply ex_and; (· with_reducible exact hF); conv => whnf)
        | (apply ex_and; (· with_reducible exact hM); conv => whnf)
        | (apply ex_and; (· with_reducible exact hsm); conv => whnf)
        | (apply ex_and; (· with_reducible exact hP); conv => whnf)
        | (apply ex_and; (· with_reducible exact awake8_ok); conv => whnf)
        | (apply ex_ilen; conv => whnf)
        | (apply ex_eq; conv => whnf)
        | ((with_reducible apply gd_t); conv => whnf)
        | ((with_reducible apply gd_f); conv => whnf)
        | (apply gd_br)
        | (apply And.intro; (· first | with_reducible rfl | exact trivial | exact Or.inl ⟨rfl, rfl⟩ | exact Or.inr rfl | decide | omega | (apply Nat.le_of_ble_eq_true; rfl) | (dsimp only; omega) | (simp only [ints_len, gl_len, mp_len, List.length_cons, List.length_nil, List.length_drop, List.length_take]; omega)); conv => whnf)
        | apply br_not
        | (apply br_t; conv => whnf)
        | (apply br_yes; (· omega); conv => whnf)
        | (apply br_no; (· omega); conv => whnf)
        | (apply br_dec <;> intro hbr <;> (first | rw [decide_eq_true hbr] | rw [decide_eq_false hbr] | skip) <;> conv => whnf)
        | fail
      all_goals exact absurd ⟨by omega, by omega, by omega, by omega⟩ hok
  · have hM := make_err (c := c) (seed := seed) hsh
    generalize shp c = k at *
    refine impl_of (fn := Try.f4) tbl_ok (by kernel_rfl) (by kernel_rfl) rfl ⟨by simp [Try.f4], by decide⟩ rfl fun W0 => ?_
    repeat' first
      | apply WP.seq
      | (apply WP.region (E := ePassBegins) mixed tbl_ok; conv => whnf)
      | (apply WP.cond; conv => whnf)
      | (apply WP.ret; conv => whnf)
      | (apply reg_and; (· kernel_rfl); conv => whnf)
      | (apply ex_and; (· with_reducible exact hF); conv => whnf)
      | (apply ex_and; (· with_reducible exact hM); conv => whnf)
      | (apply ex_and; (· with_reducible exact awake8_ok); conv => whnf)
      | (apply ex_eq; conv => whnf)
      | ((with_reducible apply gd_t); conv => whnf)
      | (apply gd_br)
      | (apply And.intro; (· first | with_reducible rfl | exact trivial | exact Or.inl ⟨rfl, rfl⟩ | exact Or.inr rfl | decide | omega | (apply Nat.le_of_ble_eq_true; rfl) | (dsimp only; omega) | (simp only [ints_len, gl_len, mp_len, List.length_cons, List.length_nil, List.length_drop, List.length_take]; omega)); conv => whnf)
      | apply br_not
      | (apply br_t; conv => whnf)
      | (apply br_no; (· omega); conv => whnf)
      | fail
end Go.Proofs.Ytcngjnhdemjomaa.T
