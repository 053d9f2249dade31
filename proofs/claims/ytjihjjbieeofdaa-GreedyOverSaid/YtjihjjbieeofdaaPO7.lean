/- What functions of the program come to, on trees. No condition but those that the theorems name. -/
import Derived.WalkKit
import Derived.ProofKit
import Derived.OpenShut
import Derived.ShutString
import Derived.ChangeOld
import Derived.Below
import Derived.SizedLaws
import Derived.Deep.Slices
import Derived.Test.YtjihjjbieeofdaaPO6
namespace Go.Proofs.Ytjihjjbieeofdaa.T
set_option linter.unusedSimpArgs false
set_option linter.unusedVariables false
open Go
set_option linter.unusedVariables false
set_option maxHeartbeats 4000000
set_option maxRecDepth 100000
def xorU (a b : Int) : Int := IntKind.u64.wrap ((BitVec.ofInt IntKind.u64.bits a ^^^ BitVec.ofInt IntKind.u64.bits b).toNat : Nat)
def g1 (x : Int) : Int := IntKind.u64.wrap (xorU x (x / 1073741824) * 13787848793156543929)
def g2 (x : Int) : Int := IntKind.u64.wrap (xorU x (x / 134217728) * 10723151780598845931)
def g3 (x : Int) : Int := xorU x (x / 2147483648)
def mixU (x : Int) : Int := g3 (g2 (g1 x))
theorem u64_in (x : Int) : 0 ≤ IntKind.u64.wrap x ∧ IntKind.u64.wrap x ≤ 18446744073709551615 := by rw [IntKind.wrap_u64]; omega
def rndV (y most : Int) : Int := y / 4294967296 * (2 * most) / 4294967296 - most
def stN (seed : Int) (n : Nat) : Int := IntKind.u64.wrap (seed + n * 11400714819323198485)
theorem stN_next (seed : Int) (n : Nat) : IntKind.u64.wrap (stN seed n + 11400714819323198485) = stN seed (n + 1) := by
  unfold stN
  rw [IntKind.wrap_u64, IntKind.wrap_u64, IntKind.wrap_u64]
  omega
def rnd (seed : Int) (n : Nat) (most : Int) : Int := rndV (mixU (stN seed (n + 1))) most
theorem rnd_num {y most : Int} (hy : 0 ≤ y ∧ y ≤ 18446744073709551615) (hm : 0 ≤ most ∧ most ≤ 131072) : 0 ≤ y / 4294967296 * (2 * most) ∧ y / 4294967296 * (2 * most) ≤ 4294967295 * 262144 ∧ 0 ≤ y / 4294967296 * (2 * most) / 4294967296 ∧ y / 4294967296 * (2 * most) / 4294967296 ≤ 262144 := by
  have h1 : 0 ≤ y / 4294967296 := by omega
  have h2 : y / 4294967296 ≤ 4294967295 := by omega
  have h3 : 0 ≤ y / 4294967296 * (2 * most) := Int.mul_nonneg h1 (by omega)
  have h4 : y / 4294967296 * (2 * most) ≤ 4294967295 * 262144 := Int.mul_le_mul h2 (by omega) (by omega) (by omega)
  omega
theorem g3_in (x : Int) : 0 ≤ g3 x ∧ g3 x ≤ 18446744073709551615 := u64_in _
def eNext : Env := ⟨tbl, [], [], [], [(0, [0, 1, 2001999, 2001000]), (1, [0, 1, 2001999, 2001000]), (2, [1, 5, 2001999, 2001000]), (3, [1, 5, 2001999, 2001000]), (4, [1, 5, 2001999, 2001000]), (5, [1, 5, 2001999, 2001000]), (6, [4, 2001999, 2001000])]⟩
theorem next_ok {seed : Int} {n : Nat} {most : Int} (hm : 0 ≤ most ∧ most ≤ 131072) : Impl Try.prog 100 [.tup [.i .u64 (stN seed n)], .i .i32 most] (.tup [.i .i32 (rnd seed n most), .tup [.i .u64 (stN seed (n + 1))]]) := by
  have hy := g3_in (g2 (g1 (stN seed (n + 1))))
  have hr : 0 ≤ g3 (g2 (g1 (stN seed (n + 1)))) / 2 ^ 32 * (2 * most) ∧ g3 (g2 (g1 (stN seed (n + 1)))) / 2 ^ 32 * (2 * most) ≤ 4294967295 * 262144 ∧ 0 ≤ g3 (g2 (g1 (stN seed (n + 1)))) / 2 ^ 32 * (2 * most) / 2 ^ 32 ∧ g3 (g2 (g1 (stN seed (n + 1)))) / 2 ^ 32 * (2 * most) / 2 ^ 32 ≤ 262144 := rnd_num hy hm
  have e : rnd seed n most = g3 (g2 (g1 (stN seed (n + 1)))) / 2 ^ 32 * (2 * most) / 2 ^ 32 - most := rfl
  have e1 : ∀ x, IntKind.u64.wrap (IntKind.u64.wrap ((BitVec.ofInt IntKind.u64.bits x ^^^ BitVec.ofInt IntKind.u64.bits (x / 2 ^ 30)).toNat : Nat) * 13787848793156543929) = g1 x := fun x => rfl
  have e2 : ∀ x, IntKind.u64.wrap (IntKind.u64.wrap ((BitVec.ofInt IntKind.u64.bits x ^^^ BitVec.ofInt IntKind.u64.bits (x / 2 ^ 27)).toNat : Nat) * 10723151780598845931) = g2 x := fun x => rfl
  have e3 : ∀ x, IntKind.u64.wrap ((BitVec.ofInt IntKind.u64.bits x ^^^ BitVec.ofInt IntKind.u64.bits (x / 2 ^ 31)).toNat : Nat) = g3 x := fun x => rfl
  rw [e]
  generalize hY : g3 (g2 (g1 (stN seed (n + 1)))) = Y at *
  refine implP_of (fn := Try.f100) tbl_ok (by kernel_rfl) (by kernel_rfl) rfl ⟨by simp [Try.f100], by decide⟩ ⟨rfl, rfl⟩ fun W0 => ?_
  repeat' first
    | apply WP.seq
    | (apply WP.region (E := eNext) mixed tbl_ok; conv => whnf)
    | (apply WP.ret; conv => whnf)
    | (rw [stN_next]; conv => whnf)
    | (apply ex_shr 30; (· rfl); conv => whnf)
    | (apply ex_shr 27; (· rfl); conv => whnf)
    | (apply ex_shr 31; (· rfl); conv => whnf)
    | (apply ex_shr 32; (· rfl); conv => whnf)
    | (rw [e1]; conv => whnf)
    | (rw [e2]; conv => whnf)
    | (rw [e3, hY]; conv => whnf)
    | (apply reg_and; (· kernel_rfl); conv => whnf)
    | (apply ex_i64; (· omega); conv => whnf)
    | (apply ex_i32; (· omega); conv => whnf)
    | (apply ex_eq; conv => whnf)
    | (apply And.intro; (· first | with_reducible rfl | exact trivial | exact Or.inl ⟨rfl, rfl⟩ | exact Or.inr rfl | decide | omega | (apply Nat.le_of_ble_eq_true; rfl) | (dsimp only; omega) | (simp only [ints_len, gl_len, mp_len, List.length_cons, List.length_nil, List.length_drop, List.length_take]; omega)); conv => whnf)
    | fail
  repeat' first
    | (apply And.intro <;> conv => whnf)
    | (apply Nat.le_of_ble_eq_true; rfl)
    | fail
theorem rnd_in (seed : Int) (n : Nat) {most : Int} (hm : 0 ≤ most ∧ most ≤ 131072) : -131072 ≤ rnd seed n most ∧ rnd seed n most ≤ 262144 := by
  have hr := rnd_num (g3_in (g2 (g1 (stN seed (n + 1))))) hm
  have e : rnd seed n most = g3 (g2 (g1 (stN seed (n + 1)))) / 4294967296 * (2 * most) / 4294967296 - most := rfl
  omega
def sRnds (seed : Int) (a n : Nat) (most more : Int) : List Int := mp n fun i => rnd seed (a + i) most + more
theorem sRnds_len (seed : Int) (a n : Nat) (most more : Int) : (sRnds seed a n most more).length = n := mp_len _ _
theorem sRnds_i32 (seed : Int) (a n : Nat) {most more : Int} (hm : 0 ≤ most ∧ most ≤ 131072) (hm2 : 0 ≤ more ∧ more ≤ 65536) : I32s (sRnds seed a n most more) := mp_i32s fun i _ => by
  have := rnd_in seed (a + i) hm
  exact ⟨by omega, by omega⟩
def eMRow : Env := ⟨tbl, [], [], [], [(0, [0, 1, 2, 2001999, 2001000]), (1, [0, 1, 2, 7, 2001999, 2001000]), (2, [0, 2, 7, 8, 9, 2001999, 2001000]), (3, [0, 2, 7, 8, 9, 10, 2001999, 2001000]), (4, [0, 2, 7, 8, 9, 2001999, 2001000]), (5, [0, 2, 7, 8, 9, 2001999, 2001000]), (6, [6, 2001999, 2001000])]⟩
theorem mrow_ok {seed : Int} {a n : Nat} {most : Int} (hm : 0 ≤ most ∧ most ≤ 131072) (hn : n ≤ 4096) : Impl Try.prog 84 [.tup [.i .u64 (stN seed a)], .i .i64 n, .i .i32 most] (.tup [rowA (some 0) (mp n fun i => rnd seed (a + i) most), .tup [.i .u64 (stN seed (a + n))]]) := by
  refine implP_of (fn := Try.f84) tbl_ok (by kernel_rfl) (by kernel_rfl) rfl ⟨by simp [Try.f84], by decide⟩ ⟨rfl, rfl⟩ fun W0 => ?_
  repeat' first
    | apply WP.seq
    | (apply WP.region (E := eMRow) mixed tbl_ok; conv => whnf)
    | apply WP.block
    | (apply reg_and; (· kernel_rfl); conv => whnf)
    | fail
  refine WP.loopM [7, 9, 10, 2001000] (fun i : Nat => [(7, .sl (some 0) none 1 false (ints .i32 (mp i fun i => rnd seed (a + i) most))), (9, .i .i64 i), (2001000, .i .u64 (stN seed (a + i)))]) (fun i => i ≤ n) (fun i => n - i) 0 ?_
  conv => whnf
  refine And.intro (And.intro ?_ ?_) (fun i hi => ?_)
  · first | omega | trivial | skip
  · conv => whnf
    repeat' first
      | apply True.intro
      | (apply ptr_and; (· kernel_rfl); conv => whnf)
      | omega
      | (apply Or.inl; rfl)
      | (apply Or.inr; apply And.intro; (· rfl); rfl)
      | (apply And.intro <;> conv => whnf)
      | rfl
      | fail
  conv => whnf
  repeat' first
    | apply WP.seq
    | (apply WP.region (E := eMRow) mixed tbl_ok; conv => whnf)
    | (apply WP.cond; conv => whnf)
    | (apply WP.skip; conv => whnf)
    | (apply WP.ret; conv => whnf)
    | (apply WP.exit; conv => whnf)
    | apply WP.block
    | (apply reg_and; (· kernel_rfl); conv => whnf)
    | (apply ex_and; (· with_reducible exact next_ok hm); conv => whnf)
    | (apply ex_i64; (· omega); conv => whnf)
    | (apply ex_eq; conv => whnf)
    | (apply And.intro; (· first | with_reducible rfl | exact trivial | exact Or.inl ⟨rfl, rfl⟩ | exact Or.inr rfl | decide | omega | (apply Nat.le_of_ble_eq_true; rfl) | (dsimp only; omega) | (simp only [ints_len, gl_len, mp_len, List.length_cons, List.length_nil, List.length_drop, List.length_take]; omega)); conv => whnf)
    | (apply br_dec <;> intro hbr <;> (first | rw [decide_eq_true hbr] | rw [decide_eq_false hbr] | skip) <;> conv => whnf)
    | fail
  · refine Exists.intro (i + 1) (And.intro (And.intro ?_ ?_) ?_)
    · first | omega | skip
    · first | omega | skip
    conv => whnf
    repeat' first
      | apply True.intro
      | (apply ptr_and; (· kernel_rfl); conv => whnf)
      | omega
      | (apply Or.inl; rfl)
      | (apply or_row; (· rfl); (· rfl); apply ints_mp; subst_vars; rfl)
      | (apply And.intro <;> conv => whnf)
      | rfl
      | fail
  · have e : i = n := by omega
    subst e
    repeat' first
      | (apply Or.inr; rfl)
      | (apply or_row; (· rfl); (· rfl); rfl)
      | (apply And.intro <;> conv => whnf)
      | (apply Nat.le_of_ble_eq_true; rfl)
      | fail
def eMGains : Env := ⟨tbl, [], [], [], [(0, [0, 1, 2001999, 2001000]), (1, [5, 2001999, 2001000]), (2, [5, 11, 12, 2001999, 2001000]), (3, [5, 11, 12, 13, 2001999, 2001000]), (4, [5, 6, 11, 12, 2001999, 2001000]), (5, [5, 11, 12, 2001999, 2001000]), (6, [5, 11, 12, 2001999, 2001000]), (7, [4, 2001999, 2001000])]⟩
theorem mgains0_ok {seed : Int} {a n : Nat} {G : Nat → Int} (hn : n ≤ 4096) (hb : ∀ i, -131072 ≤ G i ∧ G i ≤ 262144) (hrow : Impl Try.prog 84 [.tup [.i .u64 (stN seed a)], .i .i64 n, .i .i32 16384] (.tup [rowA (some 0) (mp n G), .tup [.i .u64 (stN seed (a + n))]])) : Impl Try.prog 63 [.tup [.i .u64 (stN seed a)], .i .i64 n] (.tup [rowA (some 0) (mp n fun i => G i + 65536), .tup [.i .u64 (stN seed (a + n))]]) := by
  generalize stN seed a = s0 at *
  generalize stN seed (a + n) = s1 at *
  refine implP_of (fn := Try.f63) tbl_ok (by kernel_rfl) (by kernel_rfl) rfl ⟨by simp [Try.f63], by decide⟩ ⟨rfl, rfl⟩ fun W0 => ?_
  repeat' first
    | apply WP.seq
    | (apply WP.region (E := eMGains) mixed tbl_ok; conv => whnf)
    | apply WP.block
    | (apply reg_and; (· kernel_rfl); conv => whnf)
    | (apply ex_and; (· with_reducible exact hrow); conv => whnf)
    | (apply ex_ilen; conv => whnf)
    | fail
  have hml : (mp n G).length = n := mp_len _ _
  have e0 : (mp n fun j => if j < 0 then G j + 65536 else G j) = mp n G := mp_congr fun j hj => by rw [if_neg (by omega)]
  refine WP.loopM [5, 6, 12, 13] (fun i : Nat => [(5, .sl (some 0) none 1 false (ints .i32 (mp n fun j => if j < i then G j + 65536 else G j))), (12, .i .i64 i)]) (fun i => i ≤ n) (fun i => n - i) 0 ?_
  conv => whnf
  refine And.intro (And.intro ?_ ?_) (fun i hi => ?_)
  · omega
  · conv => whnf
    repeat' first
      | apply True.intro
      | (apply ptr_and; (· kernel_rfl); conv => whnf)
      | omega
      | (apply Or.inr; rfl)
      | (apply or_row; (· rfl); (· rfl); rfl)
      | (apply And.intro <;> conv => whnf)
      | fail
  conv => whnf
  clear e0
  have hget : i < n → (mp n fun j => if j < i then G j + 65536 else G j).getD ((i : Int).toNat) 0 = G i := fun hi => by rw [Int.toNat_natCast, mp_get hi, if_neg (by omega)]
  have hlen : (mp n fun j => if j < i then G j + 65536 else G j).length = n := mp_len _ _
  have hb := hb i
  repeat' first
    | apply WP.seq
    | (apply WP.region (E := eMGains) mixed tbl_ok; conv => whnf)
    | (apply WP.cond; conv => whnf)
    | (apply WP.skip; conv => whnf)
    | (apply WP.ret; conv => whnf)
    | (apply WP.exit; conv => whnf)
    | apply WP.block
    | (rw [hget (by omega)]; conv => whnf)
    | (apply reg_and; (· kernel_rfl); conv => whnf)
    | (apply ex_i64; (· omega); conv => whnf)
    | (apply ex_i32; (· omega); conv => whnf)
    | (apply ex_ints; (· omega); conv => whnf)
    | (apply ex_eq; conv => whnf)
    | (apply nd_ints; (· omega); conv => whnf)
    | (apply And.intro; (· first | with_reducible rfl | exact trivial | exact Or.inl ⟨rfl, rfl⟩ | exact Or.inr rfl | decide | omega | (apply Nat.le_of_ble_eq_true; rfl) | (dsimp only; omega) | (simp only [ints_len, gl_len, mp_len, List.length_cons, List.length_nil, List.length_drop, List.length_take]; omega)); conv => whnf)
    | (apply br_dec <;> intro hbr <;> (first | rw [decide_eq_true hbr] | rw [decide_eq_false hbr] | skip) <;> conv => whnf)
    | fail
  · refine Exists.intro (i + 1) (And.intro (And.intro ?_ ?_) ?_)
    · first | omega | skip
    · first | omega | skip
    conv => whnf
    repeat' first
      | apply True.intro
      | (apply ptr_and; (· kernel_rfl); conv => whnf)
      | omega
      | (apply Or.inr; rfl)
      | (apply And.intro <;> conv => whnf)
      | fail
    refine or_row rfl rfl ?_
    rw [Int.toNat_natCast]
    refine ints_put fun j hj => ?_
    by_cases h1 : j = i
    · subst h1; rw [if_pos (by omega), if_pos rfl]
    · rw [if_neg h1]
      by_cases h2 : j < i
      · rw [if_pos h2, if_pos (by omega)]
      · rw [if_neg h2, if_neg (by omega)]
  · have e : i = n := by omega
    subst e
    have e2 : (mp i fun j => if j < i then G j + 65536 else G j) = mp i fun i => G i + 65536 := mp_congr fun j hj => by rw [if_pos hj]
    rw [e2]
    repeat' first
      | (apply Or.inr; rfl)
      | (apply or_row; (· rfl); (· rfl); rfl)
      | (apply And.intro <;> conv => whnf)
      | (apply Nat.le_of_ble_eq_true; rfl)
      | fail
theorem mgains_ok {seed : Int} {a n : Nat} (hn : n ≤ 4096) : Impl Try.prog 63 [.tup [.i .u64 (stN seed a)], .i .i64 n] (.tup [rowA (some 0) (sRnds seed a n 16384 65536), .tup [.i .u64 (stN seed (a + n))]]) :=
  mgains0_ok (G := fun i => rnd seed (a + i) 16384) hn (fun i => rnd_in seed (a + i) ⟨by omega, by omega⟩) (mrow_ok ⟨by omega, by omega⟩ hn)
def eMSide : Env := ⟨tbl, [], [], [], [(0, [0, 1, 2, 3, 8, 2001999, 2001000, 9999, 9000, 9001, 9002]), (1, [8, 2001999, 2001000, 9999, 9000, 9001, 9002])]⟩
theorem mside_ok {seed : Int} {a r c : Nat} {most : Int} (hm : 0 ≤ most ∧ most ≤ 131072) (hr : r ≤ 64) (hc : c ≤ 64) : Impl Try.prog 62 [.tup [.i .u64 (stN seed a)], .i .i64 r, .i .i64 c, .i .i32 most] (.tup [matA (some 0) none r c (mp (r * c) fun i => rnd seed (a + i) most), .tup [.i .u64 (stN seed (a + r * c))]]) := by
  have hrc : r * c ≤ 64 * 64 := Nat.mul_le_mul hr hc
  have hrow := mrow_ok (seed := seed) (a := a) (n := r * c) hm (by omega)
  generalize (mp (r * c) fun i => rnd seed (a + i) most) = R at *
  generalize stN seed a = s0 at *
  generalize stN seed (a + r * c) = s1 at *
  refine implP_of (fn := Try.f62) tbl_ok (by kernel_rfl) (by kernel_rfl) rfl ⟨by simp [Try.f62], by decide⟩ ⟨rfl, rfl⟩ fun W0 => ?_
  repeat' first
    | apply WP.seq
    | (apply WP.region (E := eMSide) mixed tbl_ok; conv => whnf)
    | (apply WP.ret; conv => whnf)
    | (apply reg_and; (· kernel_rfl); conv => whnf)
    | (apply ex_and; (· with_reducible exact hrow); conv => whnf)
    | (apply ex_muln; (· omega); conv => whnf)
    | (apply And.intro; (· first | with_reducible rfl | exact trivial | exact Or.inl ⟨rfl, rfl⟩ | exact Or.inr rfl | decide | omega | (apply Nat.le_of_ble_eq_true; rfl) | (dsimp only; omega) | (simp only [ints_len, gl_len, mp_len, List.length_cons, List.length_nil, List.length_drop, List.length_take]; omega)); conv => whnf)
    | fail
  repeat' first
    | apply True.intro
    | exact Int.NonNeg.mk _
    | (apply Or.inr; rfl)
    | (apply or_row; (· rfl); (· rfl); rfl)
    | (apply And.intro <;> conv => whnf)
    | (apply Nat.le_of_ble_eq_true; rfl)
    | fail
end Go.Proofs.Ytjihjjbieeofdaa.T
namespace Go.Proofs.Ytjihjjbieeofdaa.T
set_option linter.unusedSimpArgs false
set_option linter.unusedVariables false
open Go
set_option linter.unusedVariables false
set_option maxHeartbeats 8000000
set_option maxRecDepth 100000
def sSide (seed : Int) (a r c : Nat) (most : Int) : MatD := ⟨r, c, mp (r * c) fun i => rnd seed (a + i) most⟩
def pB (D H : Nat) : Nat := D + D * D + D * D + D * D + D * D + D + H * D + D * H
def sBlk (seed : Int) (D H a : Nat) : Blk :=
  ⟨sRnds seed a D 16384 65536, sSide seed (a + D) D D 65536, sSide seed (a + D + D * D) D D 65536, sSide seed (a + D + D * D + D * D) D D 65536, sSide seed (a + D + D * D + D * D + D * D) D D 65536,
    sRnds seed (a + D + D * D + D * D + D * D + D * D) D 16384 65536, sSide seed (a + D + D * D + D * D + D * D + D * D + D) H D 65536, sSide seed (a + D + D * D + D * D + D * D + D * D + D + H * D) D H 65536⟩
def sMake (seed : Int) (V D H L : Nat) : Wts :=
  ⟨sSide seed 0 V D 131072, mp L fun l => sBlk seed D H (0 + V * D + l * pB D H), sRnds seed (0 + V * D + L * pB D H) D 16384 65536, sSide seed (0 + V * D + L * pB D H + D) V D 65536⟩
theorem gl_snocB (l : List Blk) (b : Blk) : gl (blkA none) l ++ [blkA none b] = gl (blkA none) (l ++ [b]) := by simp [gl]
def eMake : Env := ⟨tbl, [], [79], [], [(0, [1, 2, 4, 3999, 3000, 3001, 3002, 3003, 3004, 5999, 5000, 5001, 5002, 5003, 5004, 5005, 5006, 5007]), (1, [1, 2, 4, 6, 3999, 3000, 3001, 3002, 3003, 3004, 5999, 5000, 5001, 5002, 5003, 5004, 5005, 5006, 5007]), (2, [1, 2, 4, 6, 15, 3999, 3000, 3001, 3002, 3003, 3004, 5999, 5000, 5001, 5002, 5003, 5004, 5005, 5006, 5007]), (3, [4, 5, 5999, 5000, 5001, 5002, 5003, 5004, 5005, 5006, 5007]), (4, [2, 4, 7, 3999, 3000, 3001, 3002, 3003, 3004, 5999, 5000, 5001, 5002, 5003, 5004, 5005, 5006, 5007, 21999, 21000]), (5, [2, 4, 7, 8, 3999, 3000, 3001, 3002, 3003, 3004, 5999, 5000, 5001, 5002, 5003, 5004, 5005, 5006, 5007, 21999, 21000, 9999, 9000, 9001, 9002, 9003, 9004, 9005, 9006, 9007]), (6, [2, 4, 7, 8, 29, 30, 3999, 3000, 3001, 3002, 3003, 3004, 5999, 5000, 5001, 5002, 5003, 5004, 5005, 5006, 5007, 21999, 21000, 9999, 9000, 9001, 9002, 9003, 9004, 9005, 9006, 9007]), (7, [2, 4, 7, 8, 29, 30, 31, 3999, 3000, 3001, 3002, 3003, 3004, 5999, 5000, 5001, 5002, 5003, 5004, 5005, 5006, 5007, 21999, 21000, 9999, 9000, 9001, 9002, 9003, 9004, 9005, 9006, 9007]), (8, [2, 4, 7, 8, 9, 29, 30, 3999, 3000, 3001, 3002, 3003, 3004, 5999, 5000, 5001, 5002, 5003, 5004, 5005, 5006, 5007, 21999, 21000, 9999, 9000, 9001, 9002, 9003, 9004, 9005, 9006, 9007, 10999, 10000, 10001, 10002, 10003, 10004, 10005, 10006, 10007, 10008, 10009, 10010, 10011, 10012, 10013, 10014, 10015, 10016, 10017, 10018, 10019]), (9, [2, 4, 7, 8, 9, 29, 30, 41, 42, 43, 3999, 3000, 3001, 3002, 3003, 3004, 5999, 5000, 5001, 5002, 5003, 5004, 5005, 5006, 5007, 21999, 21000, 9999, 9000, 9001, 9002, 9003, 9004, 9005, 9006, 9007, 10999, 10000, 10001, 10002, 10003, 10004, 10005, 10006, 10007, 10008, 10009, 10010, 10011, 10012, 10013, 10014, 10015, 10016, 10017, 10018, 10019]), (10, [2, 4, 7, 8, 9, 29, 30, 41, 42, 43, 44, 3999, 3000, 3001, 3002, 3003, 3004, 5999, 5000, 5001, 5002, 5003, 5004, 5005, 5006, 5007, 21999, 21000, 9999, 9000, 9001, 9002, 9003, 9004, 9005, 9006, 9007, 10999, 10000, 10001, 10002, 10003, 10004, 10005, 10006, 10007, 10008, 10009, 10010, 10011, 10012, 10013, 10014, 10015, 10016, 10017, 10018, 10019]), (11, [2, 4, 7, 8, 9, 11, 29, 30, 41, 42, 43, 3999, 3000, 3001, 3002, 3003, 3004, 5999, 5000, 5001, 5002, 5003, 5004, 5005, 5006, 5007, 21999, 21000, 9999, 9000, 9001, 9002, 9003, 9004, 9005, 9006, 9007, 10999, 10000, 10001, 10002, 10003, 10004, 10005, 10006, 10007, 10008, 10009, 10010, 10011, 10012, 10013, 10014, 10015, 10016, 10017, 10018, 10019]), (12, [2, 4, 7, 8, 9, 29, 30, 41, 42, 43, 3999, 3000, 3001, 3002, 3003, 3004, 5999, 5000, 5001, 5002, 5003, 5004, 5005, 5006, 5007, 21999, 21000, 9999, 9000, 9001, 9002, 9003, 9004, 9005, 9006, 9007, 10999, 10000, 10001, 10002, 10003, 10004, 10005, 10006, 10007, 10008, 10009, 10010, 10011, 10012, 10013, 10014, 10015, 10016, 10017, 10018, 10019]), (13, [2, 4, 7, 8, 9, 29, 30, 41, 42, 43, 3999, 3000, 3001, 3002, 3003, 3004, 5999, 5000, 5001, 5002, 5003, 5004, 5005, 5006, 5007, 21999, 21000, 9999, 9000, 9001, 9002, 9003, 9004, 9005, 9006, 9007, 10999, 10000, 10001, 10002, 10003, 10004, 10005, 10006, 10007, 10008, 10009, 10010, 10011, 10012, 10013, 10014, 10015, 10016, 10017, 10018, 10019]), (14, [2, 4, 7, 8, 9, 29, 30, 3999, 3000, 3001, 3002, 3003, 3004, 5999, 5000, 5001, 5002, 5003, 5004, 5005, 5006, 5007, 21999, 21000, 9999, 9000, 9001, 9002, 9003, 9004, 9005, 9006, 9007, 10999, 10000, 10001, 10002, 10003, 10004, 10005, 10006, 10007, 10008, 10009, 10010, 10011, 10012, 10013, 10014, 10015, 10016, 10017, 10018, 10019]), (15, [2, 4, 7, 8, 9, 29, 30, 3999, 3000, 3001, 3002, 3003, 3004, 5999, 5000, 5001, 5002, 5003, 5004, 5005, 5006, 5007, 21999, 21000, 9999, 9000, 9001, 9002, 9003, 9004, 9005, 9006, 9007, 10999, 10000, 10001, 10002, 10003, 10004, 10005, 10006, 10007, 10008, 10009, 10010, 10011, 10012, 10013, 10014, 10015, 10016, 10017, 10018, 10019]), (16, [2, 4, 7, 8, 9, 29, 30, 3999, 3000, 3001, 3002, 3003, 3004, 5999, 5000, 5001, 5002, 5003, 5004, 5005, 5006, 5007, 21999, 21000, 9999, 9000, 9001, 9002, 9003, 9004, 9005, 9006, 9007, 10999, 10000, 10001, 10002, 10003, 10004, 10005, 10006, 10007, 10008, 10009, 10010, 10011, 10012, 10013, 10014, 10015, 10016, 10017, 10018, 10019]), (17, [2, 4, 7, 8, 29, 30, 3999, 3000, 3001, 3002, 3003, 3004, 5999, 5000, 5001, 5002, 5003, 5004, 5005, 5006, 5007, 21999, 21000, 9999, 9000, 9001, 9002, 9003, 9004, 9005, 9006, 9007]), (18, [2, 4, 7, 8, 29, 30, 3999, 3000, 3001, 3002, 3003, 3004, 5999, 5000, 5001, 5002, 5003, 5004, 5005, 5006, 5007, 21999, 21000, 9999, 9000, 9001, 9002, 9003, 9004, 9005, 9006, 9007]), (19, [2, 4, 7, 8, 3999, 3000, 3001, 3002, 3003, 3004, 5999, 5000, 5001, 5002, 5003, 5004, 5005, 5006, 5007, 21999, 21000, 9999, 9000, 9001, 9002, 9003, 9004, 9005, 9006, 9007]), (20, [4, 8, 5999, 5000, 5001, 5002, 5003, 5004, 5005, 5006, 5007, 9999, 9000, 9001, 9002, 9003, 9004, 9005, 9006, 9007]), (21, [4, 5, 5999, 5000, 5001, 5002, 5003, 5004, 5005, 5006, 5007])]⟩
theorem make_ok {seed : Int} {V D n H L : Nat} (hs : shp ⟨V, D, n, H, L⟩ = 0) (hV : V ≤ 64) (hD : D ≤ 32) (hH : H ≤ 64) (hL : L ≤ 4) : Impl Try.prog 36 [cfgA ⟨V, D, n, H, L⟩, .i .u64 (stN seed 0)] (.tup [wtsA (some 0) none (sMake seed V D H L), .i .i64 0]) := by
  have hsh := shape_ok ⟨V, D, n, H, L⟩
  rw [hs, cfgA_eq] at hsh
  rw [cfgA_eq]
  refine impl_of (fn := Try.f36) tbl_ok (by kernel_rfl) (by kernel_rfl) rfl ⟨by simp [Try.f36], by decide⟩ rfl fun W0 => ?_
  repeat' first
    | apply WP.seq
    | (apply WP.region (E := eMake) mixed tbl_ok; conv => whnf)
    | (apply WP.cond; conv => whnf)
    | (apply WP.skip; conv => whnf)
    | apply WP.block
    | (apply reg_and; (· kernel_rfl); conv => whnf)
    | (apply ex_and; (· with_reducible exact hsh); conv => whnf)
    | (apply ex_and; (· with_reducible exact mside_ok (by omega) (by omega) (by omega)); conv => whnf)
    | (apply ex_eq; conv => whnf)
    | (apply And.intro; (· first | with_reducible rfl | exact trivial | exact Or.inl ⟨rfl, rfl⟩ | exact Or.inr rfl | decide | omega | (apply Nat.le_of_ble_eq_true; rfl) | (dsimp only; omega) | (simp only [ints_len, gl_len, mp_len, List.length_cons, List.length_nil, List.length_drop, List.length_take]; omega)); conv => whnf)
    | apply br_not
    | (apply br_t; conv => whnf)
    | fail
  have e0 : (0 + V * D) = 0 + V * D + 0 * pB D H := by rw [Nat.zero_mul]; rfl
  rw [e0]
  clear e0
  refine WP.loopM [9, 11, 30, 31, 41, 42, 43, 44, 9003, 21000, 10999, 10000, 10001, 10002, 10003, 10004, 10005, 10006, 10007, 10008, 10009, 10010, 10011, 10012, 10013, 10014, 10015, 10016, 10017, 10018, 10019] (fun l : Nat => [(9003, .sl (some 0) none 20 true (gl (blkA none) (mp l fun l => sBlk seed D H (0 + V * D + l * pB D H)))), (21000, .i .u64 (stN seed (0 + V * D + l * pB D H))), (30, .i .i64 l)]) (fun l => l ≤ L) (fun l => L - l) 0 ?_
  conv => whnf
  refine And.intro (And.intro ?_ ?_) (fun l hl => ?_)
  · first | omega | trivial | skip
  · conv => whnf
    repeat' first
      | apply True.intro
      | (apply ptr_and; (· kernel_rfl); conv => whnf)
      | omega
      | (apply Or.inr; rfl)
      | (apply Or.inl; rfl)
      | (apply or_row; (· rfl); (· rfl); rfl)
      | (apply And.intro <;> conv => whnf)
      | fail
  conv => whnf
  generalize hA : 0 + V * D + l * pB D H = A at *
  repeat' first
    | apply WP.seq
    | (apply WP.region (E := eMake) mixed tbl_ok; conv => whnf)
    | (apply WP.cond; conv => whnf)
    | (apply WP.skip; conv => whnf)
    | (apply WP.ret; conv => whnf)
    | (apply WP.exit; conv => whnf)
    | apply WP.block
    | (apply reg_and; (· kernel_rfl); conv => whnf)
    | (apply ex_and; (· with_reducible exact mside_ok (by omega) (by omega) (by omega)); conv => whnf)
    | (apply ex_and; (· with_reducible exact mgains_ok (by omega)); conv => whnf)
    | (apply ex_eq; conv => whnf)
    | (apply nodup_and; (· exact of_decide_eq_true (by kernel_rfl)); conv => whnf)
    | (apply And.intro; (· first | with_reducible rfl | exact trivial | exact Or.inl ⟨rfl, rfl⟩ | exact Or.inr rfl | decide | omega | (apply Nat.le_of_ble_eq_true; rfl) | (dsimp only; omega) | (simp only [ints_len, gl_len, mp_len, List.length_cons, List.length_nil, List.length_drop, List.length_take]; omega)); conv => whnf)
    | (apply br_dec <;> intro hbr <;> (first | rw [decide_eq_true hbr] | rw [decide_eq_false hbr] | skip) <;> conv => whnf)
    | fail
  · refine WP.rounds 5 ?_
    refine WPr.step ?_
    repeat' first
      | apply WP.seq
      | (apply WP.region (E := eMake) mixed tbl_ok; conv => whnf)
      | (apply WP.cond; conv => whnf)
      | (apply WP.skip; conv => whnf)
      | apply WP.block
      | (apply reg_and; (· kernel_rfl); conv => whnf)
      | (apply ex_and; (· with_reducible exact mside_ok (by omega) (by omega) (by omega)); conv => whnf)
      | (apply ex_i64; (· omega); conv => whnf)
      | (apply ex_eq; conv => whnf)
      | (apply And.intro; (· first | with_reducible rfl | exact trivial | exact Or.inl ⟨rfl, rfl⟩ | exact Or.inr rfl | decide | omega | (apply Nat.le_of_ble_eq_true; rfl) | (dsimp only; omega) | (simp only [ints_len, gl_len, mp_len, List.length_cons, List.length_nil, List.length_drop, List.length_take]; omega)); conv => whnf)
      | (apply br_t; conv => whnf)
      | fail
    refine WPr.step ?_
    repeat' first
      | apply WP.seq
      | (apply WP.region (E := eMake) mixed tbl_ok; conv => whnf)
      | (apply WP.cond; conv => whnf)
      | (apply WP.skip; conv => whnf)
      | apply WP.block
      | (apply reg_and; (· kernel_rfl); conv => whnf)
      | (apply ex_and; (· with_reducible exact mside_ok (by omega) (by omega) (by omega)); conv => whnf)
      | (apply ex_i64; (· omega); conv => whnf)
      | (apply ex_eq; conv => whnf)
      | (apply And.intro; (· first | with_reducible rfl | exact trivial | exact Or.inl ⟨rfl, rfl⟩ | exact Or.inr rfl | decide | omega | (apply Nat.le_of_ble_eq_true; rfl) | (dsimp only; omega) | (simp only [ints_len, gl_len, mp_len, List.length_cons, List.length_nil, List.length_drop, List.length_take]; omega)); conv => whnf)
      | (apply br_t; conv => whnf)
      | fail
    refine WPr.step ?_
    repeat' first
      | apply WP.seq
      | (apply WP.region (E := eMake) mixed tbl_ok; conv => whnf)
      | (apply WP.cond; conv => whnf)
      | (apply WP.skip; conv => whnf)
      | apply WP.block
      | (apply reg_and; (· kernel_rfl); conv => whnf)
      | (apply ex_and; (· with_reducible exact mside_ok (by omega) (by omega) (by omega)); conv => whnf)
      | (apply ex_i64; (· omega); conv => whnf)
      | (apply ex_eq; conv => whnf)
      | (apply And.intro; (· first | with_reducible rfl | exact trivial | exact Or.inl ⟨rfl, rfl⟩ | exact Or.inr rfl | decide | omega | (apply Nat.le_of_ble_eq_true; rfl) | (dsimp only; omega) | (simp only [ints_len, gl_len, mp_len, List.length_cons, List.length_nil, List.length_drop, List.length_take]; omega)); conv => whnf)
      | (apply br_t; conv => whnf)
      | fail
    refine WPr.step ?_
    repeat' first
      | apply WP.seq
      | (apply WP.region (E := eMake) mixed tbl_ok; conv => whnf)
      | (apply WP.cond; conv => whnf)
      | (apply WP.skip; conv => whnf)
      | apply WP.block
      | (apply reg_and; (· kernel_rfl); conv => whnf)
      | (apply ex_and; (· with_reducible exact mside_ok (by omega) (by omega) (by omega)); conv => whnf)
      | (apply ex_i64; (· omega); conv => whnf)
      | (apply ex_eq; conv => whnf)
      | (apply And.intro; (· first | with_reducible rfl | exact trivial | exact Or.inl ⟨rfl, rfl⟩ | exact Or.inr rfl | decide | omega | (apply Nat.le_of_ble_eq_true; rfl) | (dsimp only; omega) | (simp only [ints_len, gl_len, mp_len, List.length_cons, List.length_nil, List.length_drop, List.length_take]; omega)); conv => whnf)
      | (apply br_t; conv => whnf)
      | fail
    refine WPr.step ?_
    repeat' first
      | apply WP.seq
      | (apply WP.region (E := eMake) mixed tbl_ok; conv => whnf)
      | (apply WP.cond; conv => whnf)
      | (apply WP.exit; conv => whnf)
      | (apply reg_and; (· kernel_rfl); conv => whnf)
      | (apply ex_and; (· with_reducible exact mside_ok (by omega) (by omega) (by omega)); conv => whnf)
      | (apply ex_and; (· with_reducible exact mgains_ok (by omega)); conv => whnf)
      | (apply ex_i64; (· omega); conv => whnf)
      | (apply ex_eq; conv => whnf)
      | (apply And.intro; (· first | with_reducible rfl | exact trivial | exact Or.inl ⟨rfl, rfl⟩ | exact Or.inr rfl | decide | omega | (apply Nat.le_of_ble_eq_true; rfl) | (dsimp only; omega) | (simp only [ints_len, gl_len, mp_len, List.length_cons, List.length_nil, List.length_drop, List.length_take]; omega)); conv => whnf)
      | (apply br_f; conv => whnf)
      | fail
    have hn : A + D + D * D + D * D + D * D + D * D + D + H * D + D * H = 0 + V * D + (l + 1) * pB D H := by
      rw [← hA, Nat.add_mul, Nat.one_mul]; unfold pB
      generalize D * D = a1; generalize H * D = a2; generalize D * H = a3; generalize V * D = a4; generalize l * _ = a5; omega
    rw [hn]
    have hb : (mp l fun l => sBlk seed D H (0 + V * D + l * pB D H)) ++ [sBlk seed D H A] = mp (l + 1) fun l => sBlk seed D H (0 + V * D + l * pB D H) := by rw [mp_succ, hA]
    refine Exists.intro (l + 1) (And.intro (And.intro ?_ ?_) ?_)
    · first | omega | skip
    · first | omega | skip
    conv => whnf
    repeat' first
      | apply True.intro
      | (apply ptr_and; (· kernel_rfl); conv => whnf)
      | omega
      | (apply Or.inr; rfl)
      | (apply Or.inl; rfl)
      | (apply or_row; (· rfl); (· rfl); rfl)
      | (apply And.intro <;> conv => whnf)
      | (apply or_row; (· rfl); (· rfl); rw [← hb]; exact gl_snocB _ (sBlk seed D H A))
      | fail
  have e : l = L := by omega
  subst e
  subst hA
  repeat' first
    | apply True.intro
    | exact Int.NonNeg.mk _
    | (apply Or.inr; rfl)
    | (apply or_row; (· rfl); (· rfl); rfl)
    | (apply And.intro <;> conv => whnf)
    | (apply Nat.le_of_ble_eq_true; rfl)
    | rfl
    | fail
end Go.Proofs.Ytjihjjbieeofdaa.T
namespace Go.Proofs.Ytjihjjbieeofdaa.T
set_option linter.unusedSimpArgs false
set_option linter.unusedVariables false
open Go
set_option linter.unusedVariables false
set_option maxHeartbeats 8000000
set_option maxRecDepth 100000
end Go.Proofs.Ytjihjjbieeofdaa.T
namespace Go.Proofs.Ytjihjjbieeofdaa.T
set_option linter.unusedSimpArgs false
set_option linter.unusedVariables false
open Go
set_option linter.unusedVariables false
set_option maxHeartbeats 8000000
set_option maxRecDepth 100000
theorem matG_ok {r c : Nat} {m : MatD} (h : MatG r c m) : matOk m.r m.c m.d r c := by
  obtain ⟨h1, h2, h3⟩ := h
  refine ⟨?_, h1, h2⟩
  rw [h1, h2]; exact chk_ok h3
theorem wtsG_ok {c : Cfg} {V D H L : Nat} {w : Wts} (h1 : c.vocab = V) (h2 : c.dim = D) (h3 : c.hidden = H) (h4 : c.layers = L) (hg : WtsG V D H L w) : wtsOk c w := by
  refine ⟨?_, ?_, ?_, ?_, fun b hb => ⟨?_, ?_, ?_, ?_, ?_, ?_, ?_, ?_⟩⟩
  · rw [h1, h2]; exact matG_ok hg.embed
  · rw [h1, h2]; exact matG_ok hg.out
  · rw [h2, hg.last.1]
  · rw [h4, hg.layers]
  · rw [h2]; exact matG_ok (hg.blocks b hb).q
  · rw [h2]; exact matG_ok (hg.blocks b hb).k
  · rw [h2]; exact matG_ok (hg.blocks b hb).v
  · rw [h2]; exact matG_ok (hg.blocks b hb).o
  · rw [h2, h3]; exact matG_ok (hg.blocks b hb).up
  · rw [h2, h3]; exact matG_ok (hg.blocks b hb).down
  · rw [h2, (hg.blocks b hb).first.1]
  · rw [h2, (hg.blocks b hb).second.1]
theorem side_good {seed : Int} {a r c : Nat} {most : Int} (hr : 0 < r ∧ r ≤ 64) (hc : 0 < c ∧ c ≤ 64) (hm : 0 ≤ most ∧ most ≤ 131072) : MatG r c (sSide seed a r c most) := by
  exact ⟨rfl, rfl, by omega, by omega, by omega, by omega, mp_len _ _, mp_i32s fun i _ => by have := rnd_in seed (a + i) hm; exact ⟨by omega, by omega⟩⟩
theorem make_good {seed : Int} {V D H L : Nat} (hV : 0 < V ∧ V ≤ 64) (hD : 0 < D ∧ D ≤ 32) (hH : 0 < H ∧ H ≤ 64) : WtsG V D H L (sMake seed V D H L) := by
  refine ⟨side_good hV (by omega) (by omega), fun b hb => ?_, ?_, ?_, side_good hV (by omega) (by omega)⟩
  · obtain ⟨j, hj, rfl⟩ := mem_mp hb
    exact ⟨⟨sRnds_len _ _ _ _ _, sRnds_i32 _ _ _ (by omega) (by omega)⟩, side_good (by omega) (by omega) (by omega), side_good (by omega) (by omega) (by omega), side_good (by omega) (by omega) (by omega), side_good (by omega) (by omega) (by omega), ⟨sRnds_len _ _ _ _ _, sRnds_i32 _ _ _ (by omega) (by omega)⟩, side_good (by omega) (by omega) (by omega), side_good (by omega) (by omega) (by omega)⟩
  · exact mp_len _ _
  · exact ⟨sRnds_len _ _ _ _ _, sRnds_i32 _ _ _ (by omega) (by omega)⟩
/-- All numbers are 32 bits wide. -/
structure BlkI (b : Blk) : Prop where
  first : I32s b.first
  q : I32s b.q.d
  k : I32s b.k.d
  v : I32s b.v.d
  o : I32s b.o.d
  second : I32s b.second
  up : I32s b.up.d
  down : I32s b.down.d
structure WtsI (w : Wts) : Prop where
  embed : I32s w.embed.d
  blocks : ∀ b ∈ w.blocks, BlkI b
  last : I32s w.last
  out : I32s w.out.d
/-- A configuration that is right, in whole numbers. -/
structure CfgG (c : Cfg) (V D n H L s : Nat) : Prop where
  gv : c.vocab = V ∧ 2 ≤ V ∧ V ≤ 64
  gd : c.dim = D ∧ 0 < D ∧ D ≤ 32
  gn : c.heads = n ∧ 1 ≤ n ∧ n ≤ 4
  gh : c.hidden = H ∧ 0 < H ∧ H ≤ 64
  gl : c.layers = L ∧ 1 ≤ L ∧ L ≤ 4
  gs : n * s = D
theorem shp_of {c : Cfg} {V D n H L s : Nat} (h : CfgG c V D n H L s) : shp c = 0 := by
  obtain ⟨h1, h2, h3, h4, h5, h6⟩ := h
  unfold shp
  rw [if_neg (by omega), if_neg (by omega), if_neg]
  rw [h2.1, h3.1, ← h6]
  simp
theorem chkW_of {c : Cfg} {V D n H L s : Nat} {w : Wts} (hc : CfgG c V D n H L s) (hg : WtsG V D H L w) : chkW c w = 0 := (chk_good (shp_of hc) (wtsG_ok hc.gv.1 hc.gd.1 hc.gh.1 hc.gl.1 hg)).symm
/-- Rows at the beginning. -/
abbrev fB (D : Nat) (w : Wts) (t : List Int) (i : Nat) : List Int := sBegin D w (t.getD i 0).toNat i
/-- What a model likes. -/
def sFull (V D H s : Nat) (w : Wts) (t : List Int) : List Int := sLikes V D w (X D H s w (fB D w t) w.blocks.length (t.length - 1))
def sKeys (D H s : Nat) (w : Wts) (t : List Int) : List (List (List Int)) := mp w.blocks.length fun l => mp t.length (kF D H s w (fB D w t) l)
def sVals (D H s : Nat) (w : Wts) (t : List Int) : List (List (List Int)) := mp w.blocks.length fun l => mp t.length (vF D H s w (fB D w t) l)
theorem prm_zero {v : Int} {t : List Int} (h : prm v t = 0) : 0 < t.length ∧ t.length ≤ 128 ∧ ∀ x ∈ t, 0 ≤ x ∧ x < v := by
  unfold prm at h
  split at h
  · cases h
  split at h
  · cases h
  split at h
  · rename_i h1 h2 h3; exact ⟨by omega, by omega, h3⟩
  · cases h
end Go.Proofs.Ytjihjjbieeofdaa.T
namespace Go.Proofs.Ytjihjjbieeofdaa.T
set_option linter.unusedSimpArgs false
set_option linter.unusedVariables false
open Go
set_option linter.unusedVariables false
set_option maxHeartbeats 8000000
set_option maxRecDepth 100000
/-- More may be known of arguments. -/
theorem impl_le {P : Program} {f : Nat} {cs bs : List AV} {r : AV} (h : Impl P f cs r) (hle : le2L bs cs) (h1 : headOk bs = true) : Impl P f bs r := by
  have h2 : ∀ e, cs[0]? = some e → ∀ l, e ≠ .tup l := by
    intro e he l e'
    subst e'
    obtain ⟨e0, _, hl⟩ := (le2L_get hle).2 0 _ he
    cases e0 <;> exact hl.elim
  have hi := h.f h2
  refine headOk_impl h1 ⟨hi.fn, fun F w vs hs hv hF => hi.calls F w vs (by rw [hs]; exact (le2L_get hle).1) (fun j e v he hv2 => ?_) hF⟩
  obtain ⟨e0, he0, hl⟩ := (le2L_get hle).2 j e he
  obtain ⟨ts', t1, t2⟩ := le2_rw hl (hv j e0 v he0 hv2)
  have : ts' = [] := List.sublist_nil.1 t1
  rw [this] at t2
  exact t2
theorem made_cfg : CfgG ⟨2, 1, 1, 1, 1⟩ 2 1 1 1 1 1 := ⟨by decide, by decide, by decide, by decide, by decide, by decide⟩
end Go.Proofs.Ytjihjjbieeofdaa.T
namespace Go.Proofs.Ytjihjjbieeofdaa.T
set_option linter.unusedSimpArgs false
set_option linter.unusedVariables false
open Go Go.RowKit Go.ChangeShapes Go.WideShapes Go.Deep
set_option linter.unusedVariables false
abbrev Old (W : World) : Nat → Prop := fun b => b < W.heap.size
structure RpL (W : World) (l : List AV) (cs : List Value) : Prop where
  len : cs.length = l.length
  each : ∀ (j : Nat) (e : AV) (u : Value), l[j]? = some e → cs[j]? = some u → RB W (Old W) e u []
structure Rd {α : Type} (P : Program) (t : TypeId) (f : α → List AV) (wf : α → Prop) : Prop where
  out : ∀ {H : Type} (enc : TypeId × Value → H) (W : World) (fuel : Nat) (cs : List Value) (x : DataW H × List MemPlace), (∀ n ∈ DataW.weights P t x.1, n ≤ reachBytes) →
    DataW.trod enc P W 0 (fun _ => true) true fuel t cs = some x → ∃ a, RpL W (f a) cs ∧ wf a
/-- Fields from a place on. -/
structure Sg {α : Type} (P : Program) (off n : Nat) (fs : List Field) (f : α → List AV) (wf : α → Prop) : Prop where
  out : ∀ {H : Type} (enc : TypeId × Value → H) (W : World) (fuel : Nat) (cs : List Value) (ys : List (DataW H × List MemPlace)), cs.length = off + n → ys.length = fs.length →
    (∀ (i : Nat) (g : Field), fs[i]? = some g → DataW.trod enc P W 0 (fun _ => true) true fuel g.type ((cs.drop g.offset).take (P.cellsOf g.type)) = ys[i]?) →
    (∀ m ∈ DataW.weightsEach P (fs.map (·.type)) (ys.map (·.1)), m ≤ reachBytes) → ∃ a, RpL W (f a) (cs.drop off) ∧ wf a
theorem rt_true {W : World} {F : Nat → Prop} {v : Value} {ts : List Nat} (h : RT W F (.b true) v ts) : v = .bool true := by
  have h : Rp W F (.b true) [v] ts := h
  cases h; rfl
end Go.Proofs.Ytjihjjbieeofdaa.T
namespace Go.Proofs.Ytjihjjbieeofdaa.T
set_option linter.unusedSimpArgs false
set_option linter.unusedVariables false
open Go
set_option linter.unusedVariables false
structure BlkW (b : Blk) : Prop where
  i : BlkI b
  s : BlkS b
structure WtsW (w : Wts) : Prop where
  i : WtsI w
  s : WtsS w
end Go.Proofs.Ytjihjjbieeofdaa.T
namespace Go.Proofs.Ytjihjjbieeofdaa.T
set_option linter.unusedSimpArgs false
set_option linter.unusedVariables false
open Go
set_option linter.unusedVariables false
set_option maxHeartbeats 8000000
set_option maxRecDepth 100000
end Go.Proofs.Ytjihjjbieeofdaa.T
namespace Go.Proofs.Ytjihjjbieeofdaa.T
set_option linter.unusedSimpArgs false
set_option linter.unusedVariables false
open Go
set_option linter.unusedVariables false
set_option maxHeartbeats 8000000
set_option maxRecDepth 100000
/-- What comes ahead hangs on what comes ahead alone. -/
theorem X_pre {D H s : Nat} {w : Wts} {F F' : Nat → List Int} {m : Nat} (h : ∀ i, i < m → F i = F' i) : ∀ l i, i < m → X D H s w F l i = X D H s w F' l i
  | 0, i, hi => h i hi
  | l + 1, i, hi => by
    have ih := X_pre (D := D) (H := H) (s := s) (w := w) h l
    show (match w.blocks[l]? with | some b => lx D H s b (X D H s w F l) i | none => []) = (match w.blocks[l]? with | some b => lx D H s b (X D H s w F' l) i | none => [])
    cases w.blocks[l]? with
    | none => rfl
    | some b =>
      show lx D H s b (X D H s w F l) i = lx D H s b (X D H s w F' l) i
      unfold lx
      rw [ih i hi, mp_congr fun j hj => by rw [ih j (by omega)], mp_congr (F := fun j => sV D b (X D H s w F l j)) fun j hj => by rw [ih j (by omega)]]
theorem fB_take {D : Nat} {w : Wts} {t : List Int} {n : Nat} (hn : n ≤ t.length) : ∀ i, i < n → fB D w t i = fB D w (t.take n) i := fun i hi => by
  unfold fB
  congr 2
  rw [List.getD_eq_getElem?_getD, List.getD_eq_getElem?_getD, List.getElem?_take, if_pos hi]
end Go.Proofs.Ytjihjjbieeofdaa.T
namespace Go.Proofs.Ytjihjjbieeofdaa.T
set_option linter.unusedSimpArgs false
set_option linter.unusedVariables false
open Go Go.RowKit
set_option linter.unusedVariables false
set_option linter.unusedSimpArgs false
def AV.bz1 : AV → AV
  | .pv _ _ _ => .any
  | .ea _ _ _ _ _ => .any
  | .ptr _ _ => .any
  | .psl _ => .any
  | .pfa _ _ => .any
  | .agg _ => .any
  | .tup _ => .any
  | v => v.fz
def AV.bz : AV → AV
  | .agg l => .agg (l.map AV.bz1)
  | v => v.bz1
def cellsB (g : St) (n : Nat) : Nat → Nat → List AV
  | _, 0 => []
  | c, z + 1 => (g.get (loc n c)).bz1 :: cellsB g n (c + 1) z
def borV (g : St) (v : AV) : AV := match v with
  | .ptr n 0 => match g.get (loc n 999) with
    | .i .i64 (.ofNat z) => .fa (cellsB g n 0 z)
    | _ => .any
  | v => v.bz
def borS (g : St) : St → St
  | [] => []
  | (l, v) :: r => if l < 1000 then (l, borV g v) :: borS g r else borS g r
theorem borS_get (g : St) (k : Nat) : ∀ r : St, (borS g r).get k = if k < 1000 then borV g (r.get k) else .any
  | [] => by simp [borS, St.get, borV, AV.bz, AV.bz1, AV.fz]
  | (l, v) :: r => by
    have ih := borS_get g k r
    unfold borS
    have e0 : St.get ((l, v) :: r) k = if l = k then v else St.get r k := rfl
    rw [e0]
    by_cases hl : l < 1000
    · rw [if_pos hl]
      have e1 : St.get ((l, borV g v) :: borS g r) k = if l = k then borV g v else St.get (borS g r) k := rfl
      rw [e1, ih]
      by_cases e : l = k
      · subst e; simp [hl]
      · simp [e]
    · rw [if_neg hl, ih]
      by_cases e : l = k
      · subst e; simp [hl]
      · simp [e]
def cellsK (g : St) (n : Nat) : Nat → Nat → (List AV → Prop) → Prop
  | _, 0, K => K []
  | c, z + 1, K => g.getK (loc n c) fun v => v.bz1.fc fun v => cellsK g n (c + 1) z fun l => K (v :: l)
theorem cellsK_eq (g : St) (n : Nat) : ∀ (z c : Nat) (K : List AV → Prop), cellsK g n c z K = K (cellsB g n c z)
  | 0, c, K => rfl
  | z + 1, c, K => by unfold cellsK cellsB; rw [St.getK_eq, AV.fc_eq, cellsK_eq g n z]
def borVK (g : St) (v : AV) (K : AV → Prop) : Prop := match v with
  | .ptr n 0 => g.getK (loc n 999) fun f => match f with
    | .i .i64 (.ofNat z) => cellsK g n 0 z fun l => K (.fa l)
    | _ => K .any
  | v => v.bz.fc K
theorem borVK_eq (g : St) (v : AV) (K : AV → Prop) : borVK g v K = K (borV g v) := by
  unfold borVK borV
  split
  · rw [St.getK_eq]
    split
    · rw [cellsK_eq]
    · rfl
  · rw [AV.fc_eq]
def borK (g : St) : St → (St → Prop) → Prop
  | [], K => K []
  | (l, v) :: r, K => match Nat.blt l 1000 with
    | true => borVK g v fun v => borK g r fun r => K ((l, v) :: r)
    | false => borK g r K
theorem borK_eq (g : St) : ∀ (r : St) (K : St → Prop), borK g r K = K (borS g r)
  | [], K => rfl
  | (l, v) :: r, K => by
    unfold borK borS
    by_cases h : l < 1000
    · have : Nat.blt l 1000 = true := by simp [Nat.blt_eq, h]
      rw [this, if_pos h, borVK_eq, borK_eq g r]
    · have : Nat.blt l 1000 = false := by
        cases hb : Nat.blt l 1000 with
        | false => rfl
        | true => rw [Nat.blt_eq] at hb; exact absurd hb h
      rw [this, if_neg h, borK_eq g r]
/-- Not a place. -/
def AV.np : AV → AV
  | .pv _ _ _ => .any
  | v => v
/-- What holds nothing else. -/
def AV.cl : AV → AV
  | .b x => .b x
  | .i k n => .i k n
  | .s x => .s x
  | .sl (some _) nl sz false l => .sl (some 0) nl sz false l
  | _ => .any
def oldS (keep : List Nat) (g : St) : List Nat → St
  | [] => []
  | l :: ls => (l, (kpx keep g (g.get l)).np) :: oldS keep g ls
theorem oldS_get (keep : List Nat) (g : St) (j : Nat) : ∀ ls : List Nat, (oldS keep g ls).get j = if j ∈ ls then (kpx keep g (g.get j)).np else .any
  | [] => rfl
  | l :: ls => by
    have ih := oldS_get keep g j ls
    unfold oldS
    have e1 : St.get ((l, (kpx keep g (g.get l)).np) :: oldS keep g ls) j = if l = j then (kpx keep g (g.get l)).np else St.get (oldS keep g ls) j := rfl
    rw [e1, ih]
    by_cases h : l = j
    · subst h; simp
    · have : ¬ j = l := fun e => h e.symm
      simp [h, this]
def oldK (keep : List Nat) (g : St) : List Nat → (St → Prop) → Prop
  | [], K => K []
  | l :: ls, K => g.getK l fun v => ((kpx keep g v).np).fc fun v => oldK keep g ls fun r => K ((l, v) :: r)
theorem oldK_eq (keep : List Nat) (g : St) : ∀ (ls : List Nat) (K : St → Prop), oldK keep g ls K = K (oldS keep g ls)
  | [], K => rfl
  | l :: ls, K => by unfold oldK oldS; rw [St.getK_eq, AV.fc_eq, oldK_eq keep g ls]
def newS (g : St) (O : St) : List Nat → St
  | [] => O
  | l :: ls => (l, (g.get l).cl) :: newS g O ls
theorem newS_get (g O : St) (j : Nat) : ∀ ls : List Nat, (newS g O ls).get j = if j ∈ ls then (g.get j).cl else O.get j
  | [] => rfl
  | l :: ls => by
    have ih := newS_get g O j ls
    unfold newS
    have e1 : St.get ((l, (g.get l).cl) :: newS g O ls) j = if l = j then (g.get l).cl else St.get (newS g O ls) j := rfl
    rw [e1, ih]
    by_cases h : l = j
    · subst h; simp
    · have : ¬ j = l := fun e => h e.symm
      simp [h, this]
def newK (g : St) (O : St) : List Nat → (St → Prop) → Prop
  | [], K => K O
  | l :: ls, K => g.getK l fun v => v.cl.fc fun v => newK g O ls fun r => K ((l, v) :: r)
theorem newK_eq (g O : St) : ∀ (ls : List Nat) (K : St → Prop), newK g O ls K = K (newS g O ls)
  | [], K => rfl
  | l :: ls, K => by unfold newK newS; rw [St.getK_eq, AV.fc_eq, newK_eq g O ls]
/-- What a slot d holds by two copies: op p assigns to it what op q took out of a tuple t (component j). -/
def viaB (ops : List Oper) (p q : Nat) : Option (Nat × Nat × Nat) := match ops[p]?, ops[q]? with
  | some o, some o' => match o.op, o.dst, o.guard, o'.op, o'.dst, o'.guard with
    | .assign (.tmp s), some d, none, .extract (.tmp t) j, some s', none => if s = s' then some (d, t, j) else none
    | _, _, _, _, _, _ => none
  | _, _ => none
def srcB (o : Oper) : Option Nat := match o.op with
  | .assign (.tmp t) => some t
  | .extract (.tmp t) _ => some t
  | _ => none
/-- Nobody else writes what operation i writes; who writes what it copies is ahead of it. -/
def soleB (ops : List Oper) (ms : List Nat) (i : Nat) : Bool := match ops[i]? with
  | some o => match o.dst, srcB o with
    | some d, some t => t != d && (List.range ops.length).all fun k => match ops[k]? with
      | some o' => match o'.dst with
        | some e => (e != d || k == i) && (e != t || (Nat.blt k i && (ms.getD i 0).testBit k))
        | none => true
      | none => true
    | _, _ => false
  | none => false
def compB (g : St) (t j : Nat) : AV := match g.get t with
  | .tup l => (l.getD j .any).cl
  | _ => .any
/-- The places kept are no destinations, those made are slots. -/
def keepB (N : Nat) (ops : List Oper) (ko kn : List Nat) (vs : List (Nat × Nat × Nat)) : Bool := ko.all (fun l => !(ops.any fun o => match o.dst with
  | some d => d == l
  | none => false) && !(kn.contains l) && !(vs.any fun v => v.1 == l)) && kn.all (fun l => Nat.blt l 1000 && !(vs.any fun v => v.1 == l || v.2.1 == l)) && decide ((vs.map (·.1)).Nodup) && decide ((vs.map (·.2)).Nodup) && vs.all (fun v => Nat.blt v.1 N)
def newT (g : St) (O : St) : List (Nat × Nat × Nat) → St
  | [] => O
  | (d, t, j) :: ls => (d, compB g t j) :: newT g O ls
theorem newT_get (g O : St) (l : Nat) : ∀ ls : List (Nat × Nat × Nat), (newT g O ls).get l = match ls.find? (fun v => v.1 == l) with
    | some v => compB g v.2.1 v.2.2
    | none => O.get l
  | [] => rfl
  | (d, t, j) :: ls => by
    have ih := newT_get g O l ls
    unfold newT
    have e1 : St.get ((d, compB g t j) :: newT g O ls) l = if d = l then compB g t j else St.get (newT g O ls) l := rfl
    rw [e1, ih, List.find?_cons]
    by_cases h : d = l
    · simp [h]
    · have : ((d, t, j).1 == l) = false := by simp [h]
      rw [this, if_neg h]
def newTK (g : St) (O : St) : List (Nat × Nat × Nat) → (St → Prop) → Prop
  | [], K => K O
  | (d, t, j) :: ls, K => g.getK t fun v => (match v with
    | .tup l => (l.getD j .any).cl
    | _ => .any).fc fun v => newTK g O ls fun r => K ((d, v) :: r)
theorem newTK_eq (g O : St) : ∀ (ls : List (Nat × Nat × Nat)) (K : St → Prop), newTK g O ls K = K (newT g O ls)
  | [], K => rfl
  | (d, t, j) :: ls, K => by unfold newTK newT compB; rw [St.getK_eq, AV.fc_eq, newTK_eq g O ls]
section
variable {P : Program} {W0 : Bs} {N : Nat} {G G' : Gh} {g g' : Nat → AV} {a a' : Act} {w w' : World} {E : Env} {ops : Array Oper} {st : St} {K : Exit → St → Prop}
theorem bz1_flat (v : AV) : (∀ l, v.bz1 ≠ .agg l) ∧ (∀ l, v.bz1 ≠ .tup l) ∧ v.bz1.pst = [] ∧ v.bz1.pbx = [] ∧ v.bz1.own1 = false := by
  cases v with
  | sl o nl sz dp l => cases dp <;> (refine ⟨?_, ?_, rfl, rfl, rfl⟩ <;> (intro l h; cases h))
  | _ => refine ⟨?_, ?_, rfl, rfl, rfl⟩ <;> (intro l h; cases h)
theorem bz1_rp {w : World} {F F' : Nat → Prop} {e : AV} {y : Value} {ts : List Nat} (h : Rp w F e [y] ts) (hF : ∀ b, F b → F' b) (ht : ∀ b ∈ ts, F' b) (hna : ∀ l, e ≠ .agg l) : Rp w F' e.bz1 [y] [] := by
  cases e with
  | agg l => exact absurd rfl (hna l)
  | tup l => cases h
  | pv => cases h
  | ea => cases h
  | ptr => cases h
  | psl => cases h
  | pfa => cases h
  | _ => exact h.toFz hF ht
theorem cellsB_len (g : St) (n : Nat) : ∀ (z c : Nat), (cellsB g n c z).length = z
  | 0, _ => rfl
  | z + 1, c => by unfold cellsB; rw [List.length_cons, cellsB_len g n z]
theorem cellsB_get (g : St) (n : Nat) : ∀ (z c j : Nat), j < z → (cellsB g n c z)[j]? = some (g.get (loc n (c + j))).bz1
  | z + 1, c, 0, _ => rfl
  | z + 1, c, j + 1, h => by
    unfold cellsB
    rw [List.getElem?_cons_succ, cellsB_get g n z (c + 1) j (by omega)]
    congr 3
    unfold loc
    omega
theorem bor_rel (h : Rel W0 N G st.get a w []) : Rel ⟨w, fun b => b < w.heap.size, fun _ => False⟩ N ⟨fun b => b < w.heap.size, fun _ => none, fun _ => []⟩ (borS st st).get a w [] := by
  refine ⟨h.hN, h.hs, h.hd, ⟨rfl, rfl, rfl, Nat.le_refl _, fun _ _ _ => rfl, fun _ hk => hk.elim⟩, fun t ht => ?_, fun t h1 h2 => ?_, fun n b z hb => (by cases hb), fun _ _ => rfl, fun n b z hb => (by cases hb), fun n m b z z' hb => (by cases hb), fun l b hb => (by cases hb), fun _ => List.nodup_nil, fun l l' b hb => (by cases hb), fun b hb => hb, fun b hb => .inl hb, fun b hb => (by cases hb), List.nodup_nil, fun b hb => hb.elim⟩
  · have hsl := h.sl t ht
    have hN := h.hN
    rw [borS_get, if_pos (by omega)]
    have hts : ∀ b ∈ G.tk t, b < w.heap.size := fun b hb => (h.tk t b hb).2.1
    generalize G.tk t = ts at hsl hts
    generalize st.get t = v at hsl
    unfold borV
    split
    · rename_i n
      obtain ⟨_, b, z, hb, hx⟩ := hsl
      split
      · rename_i z' hz'
        have hzz := h.bs n b z hb _ hz'
        have hzz : z' = z := by have : (z' : Int) = z := hzz; omega
        subst hzz
        obtain ⟨x1, x2, x3, x4, arr, ty, x5, x6, x7⟩ := h.bx n b z' hb
        rw [hx]
        refine .fa (us := fun j => arr.getD j undef) x3 (fun j e he => ?_) (fun j e he => ?_) (fun j hj => ?_)
        · have hj := lt_of_get he
          rw [cellsB_len] at hj
          rw [cellsB_get _ _ _ _ _ hj] at he
          cases he
          exact (bz1_flat _).1
        · have hj := lt_of_get he
          rw [cellsB_len] at hj
          rw [cellsB_get _ _ _ _ _ hj] at he
          cases he
          rw [Nat.zero_add]
          have hy := x7 j (arr.getD j undef) hj (by rw [Array.getD_eq_getD_getElem?, Array.getElem?_eq_getElem (by omega)]; rfl)
          exact bz1_rp hy.rp (fun b hb => h.F b hb) (fun b hb => (h.tk _ b hb).2.1) hy.na
        · rw [cellsB_len] at hj
          rw [Nat.zero_add, cell_of_block x5, Array.getD_eq_getD_getElem?, Array.getElem?_eq_getElem (by omega)]; rfl
      · exact rfl
    · cases v with
      | agg l =>
        obtain ⟨arr, e, hs, tf, e2, hc⟩ := hsl
        refine ⟨arr, e, by rw [List.length_map]; exact hs, fun _ => [], by simp, fun j e' y he hy => ?_⟩
        rw [List.getElem?_map] at he
        cases hl : l[j]? with
        | none => rw [hl] at he; cases he
        | some e0 =>
          rw [hl] at he
          cases he
          have hrc := hc j e0 y hl hy
          have hin : ∀ b ∈ tf j, b < w.heap.size := fun b hb => hts b (by rw [e2]; exact mem_flat (lt_of_get hl) hb)
          have hone : y.oneCell' = true := by
            cases e0 with
            | pv r ix ss => exact hrc.2.1
            | agg l => exact hrc.elim
            | _ => obtain ⟨u, e, h1⟩ := Rp.one hrc (fun l e => by cases e); cases e; exact h1
          cases e0 with
          | pv => exact .any hone
          | agg l => exact hrc.elim
          | ea => cases hrc
          | ptr => cases hrc
          | psl => cases hrc
          | pfa => cases hrc
          | tup => cases hrc
          | sl o nl sz dp l =>
            have := bz1_rp (F' := fun b => b < w.heap.size) (show Rp w G.F (.sl o nl sz dp l) [y] (tf j) from hrc) (fun b hb => h.F b hb) hin (fun l e => by cases e)
            cases dp <;> exact this
          | any => exact bz1_rp (F' := fun b => b < w.heap.size) (show Rp w G.F .any [y] (tf j) from hrc) (fun b hb => h.F b hb) hin (fun l e => by cases e)
          | b x => exact bz1_rp (F' := fun b => b < w.heap.size) (show Rp w G.F (.b x) [y] (tf j) from hrc) (fun b hb => h.F b hb) hin (fun l e => by cases e)
          | i k n => exact bz1_rp (F' := fun b => b < w.heap.size) (show Rp w G.F (.i k n) [y] (tf j) from hrc) (fun b hb => h.F b hb) hin (fun l e => by cases e)
          | s x => exact bz1_rp (F' := fun b => b < w.heap.size) (show Rp w G.F (.s x) [y] (tf j) from hrc) (fun b hb => h.F b hb) hin (fun l e => by cases e)
          | fa x => exact bz1_rp (F' := fun b => b < w.heap.size) (show Rp w G.F (.fa x) [y] (tf j) from hrc) (fun b hb => h.F b hb) hin (fun l e => by cases e)
      | any => exact rfl
      | tup l => exact rfl
      | ptr n o => exact rfl
      | pv => exact rfl
      | ea => exact rfl
      | psl => exact rfl
      | pfa => exact rfl
      | sl o nl sz dp l =>
        have := bz1_rp (F' := fun b => b < w.heap.size) (show Rp w G.F (.sl o nl sz dp l) [a.tmps.getD t undef] ts from hsl) (fun b hb => h.F b hb) hts (fun l e => by cases e)
        cases dp <;> exact this
      | b x => exact bz1_rp (F' := fun b => b < w.heap.size) (show Rp w G.F (.b x) [a.tmps.getD t undef] ts from hsl) (fun b hb => h.F b hb) hts (fun l e => by cases e)
      | i k n => exact bz1_rp (F' := fun b => b < w.heap.size) (show Rp w G.F (.i k n) [a.tmps.getD t undef] ts from hsl) (fun b hb => h.F b hb) hts (fun l e => by cases e)
      | s x => exact bz1_rp (F' := fun b => b < w.heap.size) (show Rp w G.F (.s x) [a.tmps.getD t undef] ts from hsl) (fun b hb => h.F b hb) hts (fun l e => by cases e)
      | fa x => exact bz1_rp (F' := fun b => b < w.heap.size) (show Rp w G.F (.fa x) [a.tmps.getD t undef] ts from hsl) (fun b hb => h.F b hb) hts (fun l e => by cases e)
  · rw [borS_get, if_pos h2, h.sz t h1 h2]; rfl
theorem np_pst (keep : List Nat) (g : St) (v : AV) : (kpx keep g v).np.pst = [] := by
  have hc : ∀ l : List AV, ∀ x ∈ kcL l, x.pst1 = [] := by
    intro l
    induction l with
    | nil => intro x hx; cases hx
    | cons v l ih =>
      intro x hx
      rcases List.mem_cons.1 hx with rfl | hx
      · cases v with
        | sl o nl sz dp l => cases o <;> rfl
        | _ => rfl
      · exact ih x hx
  have h3 : ∀ v : AV, v.kc3.np.pst = [] := by
    intro v
    cases v with
    | agg l =>
      refine List.eq_nil_iff_forall_not_mem.2 fun x hx => ?_
      obtain ⟨e, he, hx⟩ := List.mem_flatMap.1 hx
      rw [hc l e he] at hx
      cases hx
    | sl o nl sz dp l => cases o <;> rfl
    | _ => rfl
  unfold kpx
  split
  · split <;> rfl
  · split <;> rfl
  · split
    · split
      · split <;> rfl
      · rfl
    · rfl
  · exact h3 _
theorem cl_rp {v : AV} (hv : v.cl ≠ .any) {x : Value} {ts : List Nat} (h : RV G g a w v x ts) {F' : Nat → Prop} : RT w F' v.cl x ts := by
  have ha : v.cl.allown = true := by
    cases v with
    | sl o nl sz dp l => cases o <;> cases dp <;> first | rfl | exact absurd rfl hv
    | _ => first | rfl | exact absurd rfl hv
  refine rt_allown (F := G.F) ?_ ha
  cases v with
  | sl o nl sz dp l =>
    cases o with
    | none => exact absurd rfl hv
    | some s =>
      cases dp with
      | true => exact absurd rfl hv
      | false =>
        have h : Rp w G.F (.sl (some s) nl sz false l) [x] ts := h
        exact h.st1 0
  | b y => exact h
  | i k n => exact h
  | s y => exact h
  | _ => exact absurd rfl hv
theorem path_nil {v c : AV} {ix : List Nat} {rb : AV → AV} (h : Path v ix [] c rb) : False := by cases h
/-- What was there ahead of the region, and what is new. -/
theorem bor_fin {O g2 st3 : St} {G0 G2 : Gh} (hr0 : Rel W0 N G0 O.get a w []) (hr2 : Rel ⟨w, fun b => b < w.heap.size, fun _ => False⟩ N G2 g2.get a' w' []) (hOp : ∀ l, (O.get l).pst = []) (hst : ∀ t, O.get t ≠ .any → a'.tmps.getD t undef = a.tmps.getD t undef) (D : Nat → Prop) (nv : Nat → AV) (nt : Nat → List Nat) (h1 : ∀ l, D l → l < 1000) (h2 : ∀ l, D l → l < N → ∀ (G : Gh) (g : Nat → AV), G.F = G0.F → RV G g a' w' (nv l) (a'.tmps.getD l undef) (nt l)) (h4 : ∀ l, D l → N ≤ l → nv l = .any) (h5 : ∀ l, D l → (nv l).pst = []) (h6 : ∀ l, D l → ∀ b ∈ nt l, w.heap.size ≤ b ∧ b < w'.heap.size) (h7 : ∀ l, D l → (nt l).Nodup) (h8 : ∀ l l' b, D l → D l' → b ∈ nt l → b ∈ nt l' → l = l') (h3 : ∀ l, (D l → st3.get l = nv l) ∧ (¬ D l → st3.get l = O.get l)) : Sat W0 N st3 a' w' := by
  classical
  have hbl : Below w.heap.size w w' := ⟨hr2.fr.os, hr2.fr.tape, hr2.fr.output, hr2.fr.size, fun k hk => hr2.fr.block k hk (fun h => h)⟩
  have hwsz : W0.w.heap.size ≤ w.heap.size := hr0.fr.size
  have hblk : ∀ b, b < w.heap.size → w'.heap[b]? = w.heap[b]? := hbl.block
  refine ⟨fun l s hs => ?_, ⟨G0.F, G0.bx, fun l => if D l then nt l else G0.tk l⟩, ?_⟩
  · by_cases hd : D l
    · rw [(h3 l).1 hd, h5 l hd] at hs; cases hs
    · rw [(h3 l).2 hd, hOp] at hs; cases hs
  have hsub : ∀ l b, b ∈ (if D l then nt l else G0.tk l) → (D l ∧ b ∈ nt l) ∨ (¬ D l ∧ b ∈ G0.tk l) := fun l b hb => by
    by_cases hd : D l
    · rw [if_pos hd] at hb; exact .inl ⟨hd, hb⟩
    · rw [if_neg hd] at hb; exact .inr ⟨hd, hb⟩
  have hbig : ∀ n c, ¬ D (loc n c) := fun n c h => by have := h1 _ h; have := loc_ge n c; omega
  refine ⟨hr2.hN, hr2.hs, hr2.hd, hr0.fr.trans ⟨hbl.os, hbl.tape, hbl.output, hbl.size, fun k hk => hblk k (by omega)⟩, fun t ht => ?_, fun t t1 t2 => ?_, fun n b z hb' => ?_, fun n hn => ?_, fun n b z hb' z' hz' => ?_, hr0.bi, fun l b hb' => ?_, fun l => ?_, fun l l' b k1 k2 => ?_, fun b hb' => Nat.lt_of_lt_of_le (hr0.F b hb') hbl.size, hr0.f0, fun b hb' => (by cases hb'), List.nodup_nil, fun b hb' z hz => ?_⟩
  · by_cases hd : D t
    · rw [(h3 t).1 hd]
      dsimp only
      rw [if_pos hd]
      exact h2 t hd ht _ _ rfl
    · rw [(h3 t).2 hd]
      dsimp only
      rw [if_neg hd]
      by_cases hv : O.get t = .any
      · have k1 := hr0.sl t ht
        rw [hv] at k1 ⊢
        exact k1
      · rw [hst t hv]
        refine (hr0.sl t ht).mono (fun b hb' => hb') (fun b hb' => hblk b (hr0.F b hb')) (fun b hb' => hblk b (hr0.tk t b hb').2.1) (fun n _ => rfl) (fun r ix ss hss s nl sz dp c rb hpa => ?_)
        have : ss = [] := by
          cases ss with
          | nil => rfl
          | cons x xs => have := hss x List.mem_cons_self; rw [hOp] at this; cases this
        subst this
        exact (path_nil hpa).elim
  · by_cases hd : D t
    · rw [(h3 t).1 hd]; exact h4 t hd t1
    · rw [(h3 t).2 hd]; exact hr0.sz t t1 t2
  · obtain ⟨x1, x2, x3, x4, arr, ty, x5, x6, x7⟩ := hr0.bx n b z hb'
    refine ⟨x1, x2, Nat.lt_of_lt_of_le x3 hbl.size, x4, arr, ty, (hblk b x3).trans x5, x6, fun c y hc hy => ?_⟩
    rw [(h3 _).2 (hbig n c)]
    dsimp only
    rw [if_neg (hbig n c)]
    exact (x7 c y hc hy).move (fun b hb' => hb') (fun b hb' => hblk b (hr0.F b hb')) (fun b hb' => hblk b (hr0.tk _ b hb').2.1)
  · rw [(h3 _).2 (hbig n 999)] at hn
    exact hr0.bn n hn
  · rw [(h3 _).2 (hbig n 999)] at hz'
    exact hr0.bs n b z hb' z' hz'
  · rcases hsub l b hb' with ⟨hd, k1⟩ | ⟨_, k1⟩
    · obtain ⟨k2, k3⟩ := h6 l hd b k1
      refine ⟨by omega, k3, fun hf => ?_, fun n z hn => ?_⟩
      · have := hr0.F b hf; omega
      · have := (hr0.bx n b z hn).2.2.1; omega
    · obtain ⟨k2, k3, k4, k5⟩ := hr0.tk l b k1
      exact ⟨k2, Nat.lt_of_lt_of_le k3 hbl.size, k4, k5⟩
  · by_cases hd : D l
    · dsimp only; rw [if_pos hd]; exact h7 l hd
    · dsimp only; rw [if_neg hd]; exact hr0.tn l
  · rcases hsub l b k1 with ⟨d1, k3⟩ | ⟨_, k3⟩ <;> rcases hsub l' b k2 with ⟨d2, k4⟩ | ⟨_, k4⟩
    · exact h8 l l' b d1 d2 k3 k4
    · have := (h6 l d1 b k3).1; have := (hr0.tk l' b k4).2.1; omega
    · have := (h6 l' d2 b k4).1; have := (hr0.tk l b k3).2.1; omega
    · exact hr0.td l l' b k3 k4
  · rw [(h3 _).2 (hbig 2000 999)] at hz
    exact hr0.p0 b hb' z hz
theorem cl_pst (v : AV) : v.cl.pst = [] := by
  cases v with
  | sl o nl sz dp l => cases o <;> cases dp <;> rfl
  | _ => rfl
/-- A closed value, whatever else is frozen. -/
theorem cl_rv {w : World} {F : Nat → Prop} {v : AV} {x : Value} {ts : List Nat} (h : v.cl ≠ .any → RT w F v.cl x ts) (G : Gh) (g : Nat → AV) : RV G g a w v.cl x (if v.cl.own1 = true then ts else []) := by
  by_cases hv : v.cl = .any
  · rw [hv, if_neg (by decide)]; exact rfl
  · have h1 := rt_allown (F' := G.F) (h hv) (by
      cases v with
      | sl o nl sz dp l => cases o <;> cases dp <;> first | rfl | exact absurd rfl hv
      | _ => first | rfl | exact absurd rfl hv)
    cases v with
    | sl o nl sz dp c =>
      cases o with
      | none => exact absurd rfl hv
      | some s =>
        cases dp with
        | true => exact absurd rfl hv
        | false =>
          have e : (AV.sl (some s) nl sz false c).cl.own1 = true := rfl
          rw [if_pos e]; exact h1
    | b y =>
      rw [if_neg (by simp [AV.cl, AV.own1])]
      have h1 : Rp w G.F (.b y) [x] ts := h1
      have e := Rp.noTok h1 rfl (fun l e => by cases e)
      rw [e] at h1; exact h1
    | i k n =>
      rw [if_neg (by simp [AV.cl, AV.own1])]
      have h1 : Rp w G.F (.i k n) [x] ts := h1
      have e := Rp.noTok h1 rfl (fun l e => by cases e)
      rw [e] at h1; exact h1
    | s y =>
      rw [if_neg (by simp [AV.cl, AV.own1])]
      have h1 : Rp w G.F (.s y) [x] ts := h1
      have e := Rp.noTok h1 rfl (fun l e => by cases e)
      rw [e] at h1; exact h1
    | _ => exact absurd rfl hv
theorem cl_rt {w : World} {F : Nat → Prop} {v : AV} (hv : v.cl ≠ .any) {x : Value} {ts : List Nat} (h : RW w F v x ts) : RT w F v.cl x ts := by
  cases v with
  | sl o nl sz dp l =>
    cases o with
    | none => exact absurd rfl hv
    | some s =>
      cases dp with
      | true => exact absurd rfl hv
      | false =>
        have h : Rp w F (.sl (some s) nl sz false l) [x] ts := h
        exact h.st1 0
  | b y => exact h
  | i k n => exact h
  | s y => exact h
  | _ => exact absurd rfl hv
theorem sole_of {ops : Array Oper} {i : Nat} (h : soleB ops.toList (masks ops.toList []) i = true) : Sole ops (anB ops) i := by
  intro o ho d hd
  unfold soleB at h
  rw [Array.getElem?_toList, ho] at h
  dsimp only at h
  rw [hd] at h
  cases hs : srcB o with
  | none => rw [hs] at h; cases h
  | some t0 =>
    rw [hs] at h
    dsimp only at h
    rw [Bool.and_eq_true, List.all_eq_true] at h
    obtain ⟨h0, h1⟩ := h
    have key : ∀ (k : Nat) (o' : Oper) (e : Nat), ops[k]? = some o' → o'.dst = some e → (e = d → k = i) ∧ (e = t0 → anB ops i k) := by
      intro k o' e hk he
      have hkl := (Array.getElem?_eq_some_iff.1 hk).1
      have h2 := h1 k (by simpa using hkl)
      rw [Array.getElem?_toList, hk] at h2
      dsimp only at h2
      rw [he] at h2
      simp only [Bool.and_eq_true, Bool.or_eq_true, bne_iff_ne, ne_eq, beq_iff_eq, Nat.blt_eq] at h2
      refine ⟨fun e1 => h2.1.resolve_left (fun h => h e1), fun e1 => ?_⟩
      have := h2.2.resolve_left (fun h => h e1)
      exact ⟨this.1, this.2⟩
    refine ⟨fun k o' hk he => (key k o' d hk he).1 rfl, fun t ht => ?_⟩
    have htt : t = t0 := by
      unfold srcB at hs
      split at hs
      · rename_i t1 hop; rw [hop] at ht; cases hs; exact ht.symm
      · rename_i t1 q hop; rw [hop] at ht; cases hs; exact ht.symm
      · cases hs
    subst htt
    exact ⟨by simpa using h0, fun k o' hk he => (key k o' t hk he).2 rfl⟩
/-- A region that reads only what was there. ko: what is kept of it; kn: what is kept of what it makes; pq, vs: what is kept out of tuples that it makes, with the operations that bring it there. -/
theorem WP.regionB {id : Nat} {draw : Bool} (pq : List (Nat × Nat)) (vs : List (Nat × Nat × Nat)) (hm : P.follows .mixedOrders = true) (hE : E.tb.okB P = true) (hpq : (pq.map fun x => viaB ops.toList x.1 x.2) = vs.map some) (hso : (pq.all fun x => soleB ops.toList (masks ops.toList []) x.1 && soleB ops.toList (masks ops.toList []) x.2) = true) (hk : keepB N ops.toList (keepOf E.keep (1000 + id)) (keepOf E.keep (2000 + id)) vs = true) (h : borK st st fun st1 => opsE (Impl P) E ops 0 ops.toList st1 [] (fun g Ls => regB draw N ops Ls.reverse = true ∧ oldK (keepOf E.keep (1000 + id)) st (keepOf E.keep (1000 + id)) fun O => newTK g O vs fun O => newK g O (keepOf E.keep (2000 + id)) (K .normal))) : WP P W0 N (.region id ops draw) st K := by
  classical
  generalize keepOf E.keep (1000 + id) = ko at hk h
  generalize keepOf E.keep (2000 + id) = kn at hk h
  constructor
  intro Q a w hsat hQ
  obtain ⟨hp, G, hr⟩ := hsat
  rw [borK_eq] at h
  have hb := bor_rel hr
  have hnp : NoPl (borS st st).get := by
    intro l s hs
    rw [borS_get] at hs
    split at hs
    · have : ∀ v : AV, (borV st v).pst = [] := by
        intro v
        unfold borV
        split
        · split <;> rfl
        · cases v with
          | agg l =>
            refine List.eq_nil_iff_forall_not_mem.2 fun x hx => ?_
            obtain ⟨e, he, hx⟩ := List.mem_flatMap.1 hx
            obtain ⟨e0, _, rfl⟩ := List.mem_map.1 he
            have := (bz1_flat e0).2.2.1
            cases e0 with
            | sl o nl sz dp l => cases dp <;> cases hx
            | _ => cases hx
          | sl o nl sz dp l => cases dp <;> rfl
          | _ => rfl
      rw [this] at hs; cases hs
    · cases hs
  refine region_wp hm hE hb hnp h fun g2 G2 a' w' hpost hr2 hkp => ?_
  rw [oldK_eq, newTK_eq, newK_eq] at hpost
  refine hQ _ _ _ _ hpost ?_
  unfold keepB at hk
  rw [Bool.and_eq_true, Bool.and_eq_true, Bool.and_eq_true, Bool.and_eq_true, List.all_eq_true, List.all_eq_true, List.all_eq_true] at hk
  obtain ⟨⟨⟨⟨hk1, hk2⟩, hk3⟩, hk4⟩, hk5⟩ := hk
  have hk3 := of_decide_eq_true hk3
  have hk4 := of_decide_eq_true hk4
  have hle : ∀ l, Le (st.get l) ((oldS ko st ko).get l) ∨ LeP st.get (oldS ko st ko).get l := fun l => by
    rw [oldS_get]
    split
    · rcases kpx_le ko st (st.get l) with h1 | ⟨r, s, nl, sz, dp, c, _, _, _, h4⟩
      · cases hv : kpx ko st (st.get l) with
        | pv r ix ss => rw [hv] at h1; exact .inl (Le.any _)
        | _ => rw [hv] at h1; exact .inl h1
      · rw [h4]; exact .inl (Le.any _)
    · exact .inl (Le.any _)
  have hpt : ∀ l n, n ∈ ((oldS ko st ko).get l).pbx → (oldS ko st ko).get (loc n 999) ≠ .any := fun l n e => by
    rw [oldS_get] at e
    split at e
    · have e' : n ∈ (kpx ko st (st.get l)).pbx := by
        cases hv : kpx ko st (st.get l) with
        | pv r ix ss => rw [hv] at e; cases e
        | _ => rw [hv] at e; exact e
      obtain ⟨h1, k, z, h2⟩ := kpx_pbx e'
      rw [oldS_get, if_pos h1, h2]
      exact fun h => (by cases h)
    · cases e
  obtain ⟨G0, hr0⟩ := hr.weak hle hpt
  generalize hO : oldS ko st ko = O at hpost hr0
  have hOp : ∀ l, (O.get l).pst = [] := fun l => by
    rw [← hO, oldS_get]; split
    · exact np_pst _ _ _
    · rfl
  have hOk : ∀ l, O.get l ≠ .any → l ∈ ko := fun l hl => by
    rw [← hO, oldS_get] at hl
    split at hl
    · assumption
    · exact absurd rfl hl
  have hdst : ∀ l, l ∈ ko → ∀ (j : Nat) (o : Oper), ops[j]? = some o → o.dst ≠ some l := fun l hl j o ho hd => by
    have h1 := hk1 l hl
    rw [Bool.and_eq_true, Bool.and_eq_true, Bool.not_eq_true', List.any_eq_false] at h1
    have := h1.1.1 o (by rw [← Array.getElem?_toList] at ho; exact List.mem_of_getElem? ho)
    rw [hd] at this
    simp at this
  have hstO : ∀ t, O.get t ≠ .any → a'.tmps.getD t undef = a.tmps.getD t undef := fun t ht => hkp.st t (hdst t (hOk t ht))
  have hknl : ∀ l, l ∈ kn → l < 1000 ∧ ∀ v ∈ vs, v.1 ≠ l ∧ v.2.1 ≠ l := fun l hl => by
    have h1 := hk2 l hl
    rw [Bool.and_eq_true, Nat.blt_eq, Bool.not_eq_true', List.any_eq_false] at h1
    refine ⟨h1.1, fun v hv => ?_⟩
    have := h1.2 v hv
    simp only [Bool.or_eq_true, beq_iff_eq, not_or] at this
    exact this
  -- the values out of tuples
  have hvia : ∀ v ∈ vs, v.1 < N ∧ v.2.1 < N ∧ ∃ xs, a'.tmps.getD v.2.1 undef = .tuple xs ∧ xs[v.2.2]? = some (a'.tmps.getD v.1 undef) := by
    intro v hv
    have hv1 : some v ∈ vs.map some := List.mem_map.2 ⟨v, hv, rfl⟩
    rw [← hpq] at hv1
    obtain ⟨x, hx, hvx⟩ := List.mem_map.1 hv1
    have hs := List.all_eq_true.1 hso x hx
    rw [Bool.and_eq_true] at hs
    have s1 := sole_of hs.1
    have s2 := sole_of hs.2
    unfold viaB at hvx
    split at hvx
    case h_2 => cases hvx
    rename_i o o' ho ho'
    rw [Array.getElem?_toList] at ho ho'
    split at hvx
    case h_2 => cases hvx
    rename_i s d t j s' op1 d1 g1 op2 d2 g2'
    split at hvx
    case isFalse => cases hvx
    rename_i hss
    subst hss
    cases hvx
    have hlt := (Array.getElem?_eq_some_iff.1 ho).1
    have hlt' := (Array.getElem?_eq_some_iff.1 ho').1
    have c1 := hkp.cp x.1 o (by simpa using hlt) ho g1 s1 d d1
    have c2 := hkp.cp x.2 o' (by simpa using hlt') ho' g2' s2 s d2
    unfold cpy at c1 c2
    rw [op1] at c1
    rw [op2] at c2
    dsimp only at c1 c2
    obtain ⟨xs, e1, e2⟩ := c2
    have htN : ∀ (y : Nat), a'.tmps.getD y undef ≠ undef → y < N := fun y hy => by
      rcases Nat.lt_or_ge y N with h | h
      · exact h
      · exfalso; apply hy
        rw [Array.getD_eq_getD_getElem?, Array.getElem?_eq_none (by rw [hr2.hs]; exact h)]; rfl
    refine ⟨by simpa using hk5 _ hv, ?_, xs, e1, by rw [e2, c1]⟩
    exact htN t (by
      rw [e1]
      intro h
      have h : xs = #[] := by unfold undef at h; injection h
      rw [h] at e2; simp at e2)
  have hT : ∀ t, ∃ tf : Nat → List Nat, ∀ l, g2.get t = .tup l → t < N → ∃ xs, a'.tmps.getD t undef = .tuple xs ∧ xs.size = l.length ∧ G2.tk t = (List.range l.length).flatMap tf ∧ ∀ j e y, l[j]? = some e → xs[j]? = some y → RW w' G2.F e y (tf j) := fun t => by
    by_cases ht : t < N
    · have hsl := hr2.sl t ht
      by_cases htu : ∃ l, g2.get t = .tup l
      · obtain ⟨l, hl⟩ := htu
        rw [hl] at hsl
        obtain ⟨xs, e1, e2, tf, e3, e4⟩ := hsl
        exact ⟨tf, fun l' hl' _ => by rw [hl] at hl'; cases hl'; exact ⟨xs, e1, e2, e3, e4⟩⟩
      · exact ⟨fun _ => [], fun l hl => absurd ⟨l, hl⟩ htu⟩
    · exact ⟨fun _ => [], fun l _ h => absurd h ht⟩
  obtain ⟨tf, htf⟩ := Classical.axiomOfChoice hT
  let nv : Nat → AV := fun l => if l ∈ kn then (g2.get l).cl else match vs.find? (fun v => v.1 == l) with
    | some v => compB g2 v.2.1 v.2.2
    | none => .any
  let nt : Nat → List Nat := fun l => if l ∈ kn then (if (g2.get l).cl.own1 = true then G2.tk l else []) else match vs.find? (fun v => v.1 == l) with
    | some v => if (compB g2 v.2.1 v.2.2).own1 = true then tf v.2.1 v.2.2 else []
    | none => []
  have hfind : ∀ l v, vs.find? (fun v => v.1 == l) = some v → v ∈ vs ∧ v.1 = l := fun l v h => ⟨List.mem_of_find?_eq_some h, by simpa using List.find?_some h⟩
  -- a component
  have hcomp : ∀ v ∈ vs, (compB g2 v.2.1 v.2.2 ≠ .any → ∃ l e, g2.get v.2.1 = .tup l ∧ l[v.2.2]? = some e ∧ compB g2 v.2.1 v.2.2 = e.cl ∧ RW w' G2.F e (a'.tmps.getD v.1 undef) (tf v.2.1 v.2.2) ∧ ∀ b ∈ tf v.2.1 v.2.2, b ∈ G2.tk v.2.1) := by
    intro v hv hne
    obtain ⟨v1, v2, xs, e1, e2⟩ := hvia v hv
    unfold compB at hne ⊢
    split at hne
    case h_2 => exact absurd rfl hne
    rename_i l hl
    obtain ⟨xs', f1, f2, f3, f4⟩ := htf v.2.1 l hl v2
    rw [e1] at f1
    cases f1
    have hj : v.2.2 < l.length := by have := (Array.getElem?_eq_some_iff.1 e2).1; omega
    refine ⟨l, l[v.2.2], hl, List.getElem?_eq_getElem hj, ?_, f4 _ _ _ (List.getElem?_eq_getElem hj) e2, fun b hb => by rw [f3]; exact mem_flat hj hb⟩
    rw [List.getD_eq_getElem?_getD, List.getElem?_eq_getElem hj]; rfl
  have hnt : ∀ l b, b ∈ nt l → (l ∈ kn ∧ b ∈ G2.tk l) ∨ (l ∉ kn ∧ ∃ v ∈ vs, v.1 = l ∧ b ∈ tf v.2.1 v.2.2 ∧ b ∈ G2.tk v.2.1 ∧ compB g2 v.2.1 v.2.2 ≠ .any) := by
    intro l b hb
    have hb : b ∈ (if l ∈ kn then (if (g2.get l).cl.own1 = true then G2.tk l else []) else match vs.find? (fun v => v.1 == l) with
      | some v => if (compB g2 v.2.1 v.2.2).own1 = true then tf v.2.1 v.2.2 else []
      | none => []) := hb
    by_cases hk : l ∈ kn
    · rw [if_pos hk] at hb
      split at hb
      · exact .inl ⟨hk, hb⟩
      · cases hb
    · rw [if_neg hk] at hb
      cases hf : vs.find? (fun v => v.1 == l) with
      | none => rw [hf] at hb; cases hb
      | some v =>
        rw [hf] at hb
        dsimp only at hb
        obtain ⟨hv, hvl⟩ := hfind l v hf
        split at hb
        · rename_i ho
          have hne : compB g2 v.2.1 v.2.2 ≠ .any := fun e => by rw [e] at ho; cases ho
          obtain ⟨_, _, _, _, _, _, h5⟩ := hcomp v hv hne
          exact .inr ⟨hk, v, hv, hvl, hb, h5 b hb, hne⟩
        · cases hb
  have htk2 : ∀ l b, b ∈ G2.tk l → w.heap.size ≤ b ∧ b < w'.heap.size := fun l b hb => ⟨(hr2.tk l b hb).1, (hr2.tk l b hb).2.1⟩
  refine bor_fin hr0 hr2 hOp hstO (fun l => l ∈ kn ∨ (vs.find? (fun v => v.1 == l)).isSome = true) nv nt ?_ ?_ ?_ ?_ ?_ ?_ ?_ ?_
  · intro l hl
    rcases hl with hl | hl
    · exact (hknl l hl).1
    · obtain ⟨v, hv⟩ := Option.isSome_iff_exists.1 hl
      obtain ⟨h1, h2⟩ := hfind l v hv
      have := (hvia v h1).1
      have := hr2.hN
      omega
  · intro l hl hlN G' g' hG'
    show RV G' g' a' w' (if l ∈ kn then (g2.get l).cl else _) _ (if l ∈ kn then _ else _)
    by_cases hk : l ∈ kn
    · rw [if_pos hk, if_pos hk]
      exact cl_rv (F := G0.F) (fun hv => cl_rp hv (hr2.sl l hlN)) G' g'
    · rw [if_neg hk, if_neg hk]
      cases hf : vs.find? (fun v => v.1 == l) with
      | none => exact rfl
      | some v =>
        obtain ⟨hv, hvl⟩ := hfind l v hf
        dsimp only
        by_cases hne : compB g2 v.2.1 v.2.2 = .any
        · rw [hne, if_neg (by decide)]; exact rfl
        · obtain ⟨lt, e, h1, h2, h3, h4, h5⟩ := hcomp v hv hne
          rw [h3] at hne ⊢
          rw [hvl] at h4
          exact cl_rv (F := G2.F) (fun hv => cl_rt hv h4) G' g'
  · intro l hl hlN
    show (if l ∈ kn then (g2.get l).cl else _) = _
    by_cases hk : l ∈ kn
    · rw [if_pos hk, hr2.sz l hlN (hknl l hk).1]; rfl
    · rw [if_neg hk]
      cases hf : vs.find? (fun v => v.1 == l) with
      | none => rfl
      | some v =>
        obtain ⟨hv, hvl⟩ := hfind l v hf
        have := (hvia v hv).1
        omega
  · intro l hl
    show (if l ∈ kn then (g2.get l).cl else _).pst = _
    by_cases hk : l ∈ kn
    · rw [if_pos hk]; exact cl_pst _
    · rw [if_neg hk]
      cases hf : vs.find? (fun v => v.1 == l) with
      | none => rfl
      | some v =>
        dsimp only
        unfold compB
        split
        · exact cl_pst _
        · rfl
  · intro l hl b hb
    rcases hnt l b hb with ⟨_, h1⟩ | ⟨_, v, _, _, _, h1, _⟩
    · exact htk2 l b h1
    · exact htk2 _ b h1
  · intro l hl
    show (if l ∈ kn then _ else _ : List Nat).Nodup
    by_cases hk : l ∈ kn
    · rw [if_pos hk]
      split
      · exact hr2.tn l
      · exact List.nodup_nil
    · rw [if_neg hk]
      cases hf : vs.find? (fun v => v.1 == l) with
      | none => exact List.nodup_nil
      | some v =>
        obtain ⟨hv, hvl⟩ := hfind l v hf
        dsimp only
        split
        · rename_i ho
          have hne : compB g2 v.2.1 v.2.2 ≠ .any := fun e => by rw [e] at ho; cases ho
          obtain ⟨lt, e, h1, h2, _⟩ := hcomp v hv hne
          obtain ⟨_, v2, _⟩ := hvia v hv
          obtain ⟨xs', f1, f2, f3, f4⟩ := htf v.2.1 lt h1 v2
          have hnd := hr2.tn v.2.1
          rw [f3] at hnd
          exact (of_nodup_flat hnd).1 _ (lt_of_get h2)
        · exact List.nodup_nil
  · intro l l' b hl hl' h1 h2
    rcases hnt l b h1 with ⟨k1, k2⟩ | ⟨k1, v, hv, hvl, k3, k4, k5⟩ <;> rcases hnt l' b h2 with ⟨q1, q2⟩ | ⟨q1, v', hv', hvl', q3, q4, q5⟩
    · exact hr2.td l l' b k2 q2
    · exact absurd (hr2.td _ _ b k2 q4).symm ((hknl l k1).2 v' hv').2
    · exact absurd (hr2.td _ _ b q2 k4).symm ((hknl l' q1).2 v hv).2
    · have ht := hr2.td _ _ b k4 q4
      obtain ⟨lt, e, h1, h2, _⟩ := hcomp v hv k5
      obtain ⟨lt', e', h1', h2', _⟩ := hcomp v' hv' q5
      obtain ⟨_, v2, _⟩ := hvia v hv
      obtain ⟨xs', f1, f2, f3, f4⟩ := htf v.2.1 lt h1 v2
      have hnd := hr2.tn v.2.1
      rw [f3] at hnd
      rw [← ht] at h1' q3
      rw [h1] at h1'
      cases h1'
      have hj := (of_nodup_flat hnd).2 _ _ b (lt_of_get h2) (lt_of_get h2') k3 q3
      have hvv : v.2 = v'.2 := Prod.ext ht hj
      have : v = v' := by
        obtain ⟨i, hi⟩ := List.mem_iff_getElem?.1 hv
        obtain ⟨i', hi'⟩ := List.mem_iff_getElem?.1 hv'
        have e1 : (vs.map (·.2))[i]? = some v.2 := by rw [List.getElem?_map, hi]; rfl
        have e2 : (vs.map (·.2))[i']? = some v'.2 := by rw [List.getElem?_map, hi']; rfl
        have : i = i' := (List.getElem?_inj (by have := lt_of_get hi; rw [List.length_map]; exact this) hk4).1 (by rw [e1, e2, hvv])
        subst this
        rw [hi] at hi'; cases hi'; rfl
      rw [← hvl, ← hvl', this]
  · intro l
    have hget : (newS g2 (newT g2 O vs) kn).get l = if l ∈ kn then (g2.get l).cl else (newT g2 O vs).get l := newS_get g2 _ l kn
    rw [hget, newT_get]
    refine ⟨fun hd => ?_, fun hd => ?_⟩
    · show _ = (if l ∈ kn then (g2.get l).cl else _)
      by_cases hk : l ∈ kn
      · rw [if_pos hk, if_pos hk]
      · rw [if_neg hk, if_neg hk]
        rcases hd with hd | hd
        · exact absurd hd hk
        · obtain ⟨v, hv⟩ := Option.isSome_iff_exists.1 hd
          rw [hv]
    · rw [not_or] at hd
      rw [if_neg hd.1]
      cases hf : vs.find? (fun v => v.1 == l) with
      | none => rfl
      | some v => rw [hf] at hd; exact absurd rfl hd.2
end
end Go.Proofs.Ytjihjjbieeofdaa.T
namespace Go.Proofs.Ytjihjjbieeofdaa.T
set_option linter.unusedSimpArgs false
set_option linter.unusedVariables false
open Go
set_option linter.unusedVariables false
set_option maxHeartbeats 4000000
set_option maxRecDepth 100000
def eOneN : Env := ⟨tbl, [], [61, 66], [70], [(0, [2, 3, 4, 5, 6, 6999, 6000, 6001, 6002, 6003, 6004, 7999, 7000, 7001, 7002, 7003, 7004, 7005, 7006, 7007, 7008, 7009, 7010, 7011, 7012, 7013, 7014, 7015, 7016, 7017, 7018, 7019]), (1, [2, 3, 4, 5, 6, 13, 6999, 6000, 6001, 6002, 6003, 6004, 7999, 7000, 7001, 7002, 7003, 7004, 7005, 7006, 7007, 7008, 7009, 7010, 7011, 7012, 7013, 7014, 7015, 7016, 7017, 7018, 7019]), (2, [2, 3, 4, 5, 6, 13, 15, 6999, 6000, 6001, 6002, 6003, 6004, 7999, 7000, 7001, 7002, 7003, 7004, 7005, 7006, 7007, 7008, 7009, 7010, 7011, 7012, 7013, 7014, 7015, 7016, 7017, 7018, 7019]), (3, [2, 3, 4, 5, 6, 13, 15, 17, 6999, 6000, 6001, 6002, 6003, 6004, 7999, 7000, 7001, 7002, 7003, 7004, 7005, 7006, 7007, 7008, 7009, 7010, 7011, 7012, 7013, 7014, 7015, 7016, 7017, 7018, 7019]), (4, [2, 3, 4, 5, 6, 15, 17, 19, 6999, 6000, 6001, 6002, 6003, 6004, 7999, 7000, 7001, 7002, 7003, 7004, 7005, 7006, 7007, 7008, 7009, 7010, 7011, 7012, 7013, 7014, 7015, 7016, 7017, 7018, 7019]), (5, [2, 6, 15, 17, 21, 7999, 7000, 7001, 7002, 7003, 7004, 7005, 7006, 7007, 7008, 7009, 7010, 7011, 7012, 7013, 7014, 7015, 7016, 7017, 7018, 7019]), (6, [2, 6, 15, 17, 23, 7999, 7000, 7001, 7002, 7003, 7004, 7005, 7006, 7007, 7008, 7009, 7010, 7011, 7012, 7013, 7014, 7015, 7016, 7017, 7018, 7019]), (7, [6, 15, 17, 25, 7999, 7000, 7001, 7002, 7003, 7004, 7005, 7006, 7007, 7008, 7009, 7010, 7011, 7012, 7013, 7014, 7015, 7016, 7017, 7018, 7019]), (8, [10, 11, 12]), (1005, [2, 6, 15, 17, 7000, 7001, 7002, 7003, 7004, 7005, 7006, 7007, 7008, 7009, 7010, 7011, 7012, 7013, 7014, 7015, 7016, 7017, 7018, 7019, 7999]), (2005, [])]⟩
theorem one_okN {nx nk nv : Option Bool} {c : Cfg} {D H n s : Nat} {b : Blk} {x : List Int} {keys vals : List (List Int)} (hc : c.heads = n) (hn : 1 ≤ n ∧ n ≤ 4) (hns : n * s = D) (hD : 0 < D ∧ D ≤ 32) (hH : 0 < H ∧ H ≤ 128) (hb : BlkG D H b) (hx : x.length = D) (hw : I32s x) (hk : RowsN D keys) (hv : RowsN D vals) (hl : keys.length = vals.length ∧ keys.length ≤ 127) : Impl Try.prog 74 [cfgA c, blkA none b, .sl none nx 1 false (ints .i32 x), .sl none nk 1 true (gl (rowA none) keys), .sl none nv 1 true (gl (rowA none) vals)] (.tup [rowA (some 0) (sOne D H s b x keys vals).x, rowA (some 0) (sOne D H s b x keys vals).k, rowA (some 0) (sOne D H s b x keys vals).v]) := by
  obtain ⟨s1, s2⟩ := hb.first
  have l1 := sNorm_len x b.first
  have i1 := sNorm_i32 x b.first
  have lq := sApply_len D D b.q.d (sNorm x b.first)
  have lk := sApply_len D D b.k.d (sNorm x b.first)
  have lv := sApply_len D D b.v.d (sNorm x b.first)
  have iq := sApply_i32 D D b.q.d (sNorm x b.first)
  have ik := sApply_i32 D D b.k.d (sNorm x b.first)
  have iv := sApply_i32 D D b.v.d (sNorm x b.first)
  have hat : ∀ {n1 n2 n3 : Option Bool}, Impl Try.prog 90 [.sl none n1 1 false (ints .i32 (sApply D D b.q.d (sNorm x b.first))), .sl none n2 1 true (gl (rowA none) (keys ++ [sApply D D b.k.d (sNorm x b.first)])), .sl none n3 1 true (gl (rowA none) (vals ++ [sApply D D b.v.d (sNorm x b.first)])), .i .i64 c.heads] (.tup [rowA (some 0) (sAttend (sApply D D b.q.d (sNorm x b.first)) (keys ++ [sApply D D b.k.d (sNorm x b.first)]) (vals ++ [sApply D D b.v.d (sNorm x b.first)]) s), .i .i64 0]) := fun {n1 n2 n3} => by
    rw [hc]
    exact attend_ok hn (by omega) (by simp; omega) (by omega) (by simp; omega) iq (by rw [lq]; exact rowsN_snoc hk ⟨lk, ik⟩) (by rw [lq]; exact rowsN_snoc hv ⟨lv, iv⟩)
  have la := sAttend_len (sApply D D b.q.d (sNorm x b.first)) (keys ++ [sApply D D b.k.d (sNorm x b.first)]) (vals ++ [sApply D D b.v.d (sNorm x b.first)]) s
  have ia := sAttend_i32 (sApply D D b.q.d (sNorm x b.first)) (keys ++ [sApply D D b.k.d (sNorm x b.first)]) (vals ++ [sApply D D b.v.d (sNorm x b.first)]) s
  have e : sOne D H s b x keys vals = ⟨sHalf D H b (sPlus x (sApply D D b.o.d (sAttend (sApply D D b.q.d (sNorm x b.first)) (keys ++ [sApply D D b.k.d (sNorm x b.first)]) (vals ++ [sApply D D b.v.d (sNorm x b.first)]) s))), sApply D D b.k.d (sNorm x b.first), sApply D D b.v.d (sNorm x b.first)⟩ := rfl
  rw [e]
  generalize sAttend (sApply D D b.q.d (sNorm x b.first)) (keys ++ [sApply D D b.k.d (sNorm x b.first)]) (vals ++ [sApply D D b.v.d (sNorm x b.first)]) s = A at *
  have lo := sApply_len D D b.o.d A
  have ls := sPlus_len x (sApply D D b.o.d A)
  refine impl_of (fn := Try.f74) tbl_ok (by kernel_rfl) (by kernel_rfl) rfl ⟨by simp [Try.f74], by decide⟩ rfl fun W0 => ?_
  repeat' first
    | (refine WP.regionB (E := eOneN) (id := 5) [(17, 15)] [(21, 55, 0)] mixed tbl_ok ?_ ?_ ?_ ?_; (· kernel_rfl); (· kernel_rfl); (· kernel_rfl); conv => whnf)
    | apply WP.seq
    | (apply WP.region (E := eOneN) mixed tbl_ok; conv => whnf)
    | (apply WP.ret; conv => whnf)
    | (rw [List.nil_append]; conv => whnf)
    | (rw [gl_snocR]; conv => whnf)
    | (rw [fz_rows]; conv => whnf)
    | (apply reg_and; (· kernel_rfl); conv => whnf)
    | (apply ex_and; (· with_reducible exact norm_ok (by omega) (by omega) (by omega) hw s2); conv => whnf)
    | (apply ex_and; (· with_reducible exact apply_okM hb.k (by omega) i1); conv => whnf)
    | (apply ex_and; (· with_reducible exact apply_okM hb.v (by omega) i1); conv => whnf)
    | (apply ex_and; (· with_reducible exact apply_okM hb.q (by omega) i1); conv => whnf)
    | (apply ex_and; (· with_reducible exact hat); conv => whnf)
    | (apply ex_and; (· with_reducible exact apply_okM hb.o (by omega) ia); conv => whnf)
    | (apply ex_and; (· with_reducible exact addv_ok (by omega) (by omega) hw (sApply_i32 _ _ _ _)); conv => whnf)
    | (apply ex_and; (· with_reducible exact half_ok (by omega) (by omega) hb (by omega) (sPlus_i32 _ _)); conv => whnf)
    | (apply nodup_and; (· exact of_decide_eq_true (by kernel_rfl)); conv => whnf)
    | (apply And.intro; (· first | with_reducible rfl | exact trivial | exact Or.inl ⟨rfl, rfl⟩ | exact Or.inr rfl | decide | omega | (apply Nat.le_of_ble_eq_true; rfl) | (dsimp only; omega) | (simp only [ints_len, gl_len, mp_len, List.length_cons, List.length_nil, List.length_drop, List.length_take]; omega)); conv => whnf)
    | fail
  repeat' first
    | apply True.intro
    | (apply Or.inr; rfl)
    | (apply or_row; (· rfl); (· rfl); rfl)
    | (apply And.intro <;> conv => whnf)
    | (apply Nat.le_of_ble_eq_true; rfl)
    | fail
end Go.Proofs.Ytjihjjbieeofdaa.T
namespace Go.Proofs.Ytjihjjbieeofdaa.T
set_option linter.unusedSimpArgs false
set_option linter.unusedVariables false
open Go Go.RowKit
set_option linter.unusedVariables false
set_option linter.unusedSimpArgs false
inductive NLe : AV → AV → Prop
  | refl (v : AV) : NLe v v
  | sl {s s' : Nat} {nl nl' : Option Bool} {sz : Nat} {dp : Bool} {l l' : List AV} (hn : nl' = none ∨ nl' = nl) (hl : l'.length = l.length) (h : ∀ (j : Nat) (e e' : AV), l[j]? = some e → l'[j]? = some e' → NLe e e') : NLe (.sl (some s) nl sz dp l) (.sl (some s') nl' sz dp l')
theorem NLe.scal {v v' : AV} (h : NLe v v') (hs : v.scal = true) : v' = v := by
  cases h with
  | refl => rfl
  | sl => cases hs
theorem NLe.na {v v' : AV} (h : NLe v v') (hv : ∀ l, v ≠ .agg l) : ∀ l, v' ≠ .agg l := by
  cases h with
  | refl => exact hv
  | sl => intro l e; cases e
theorem NLe.rp {w : World} {F : Nat → Prop} {v : AV} {cs : List Value} {ts : List Nat} (h : Rp w F v cs ts) : ∀ {v' : AV}, NLe v v' → Rp w F v' cs ts := by
  induction h with
  | @own b cap arr ty nl sz st dp l cs ts hn hh hc hm hs hl hr hw hd ih =>
    intro v' hv
    cases hv with
    | refl => exact .own hn hh hc hm hs hl hr hw hd
    | @sl _ s' _ nl' _ _ _ l' h1 h2 h3 =>
      have hget : ∀ j, j < l.length → ∃ e e', l[j]? = some e ∧ l'[j]? = some e' ∧ NLe e e' := fun j hj => ⟨l[j], l'[j], List.getElem?_eq_getElem hj, List.getElem?_eq_getElem (by omega), h3 j _ _ (List.getElem?_eq_getElem hj) (List.getElem?_eq_getElem (by omega))⟩
      have hn' : nl' ≠ some true := by rcases h1 with h1 | h1 <;> rw [h1] <;> first | exact hn | decide
      have := Rp.own (w := w) (F := F) (st := s') (nil := nl') (sz := sz) (dp := dp) (l := l') (cs := cs) (ts := ts) hn' hh (by omega) hm hs (fun j hj => hl j (by omega)) (fun j e' he' => by
        obtain ⟨e, e2, q1, q2, q3⟩ := hget j (by have := lt_of_get he'; omega)
        rw [he'] at q2; cases q2
        exact ih j e q1 q3) (fun j q u hj hu => hw j q u (by omega) hu) (fun hdp e' he' => by
        obtain ⟨j, hj⟩ := List.mem_iff_getElem?.1 he'
        obtain ⟨e, e2, q1, q2, q3⟩ := hget j (by have := lt_of_get hj; omega)
        rw [hj] at q2; cases q2
        have hs := hd hdp e (List.mem_of_getElem? q1)
        rw [q3.scal hs]; exact hs)
      rw [h2] at this
      exact this
  | own0 hn =>
    intro v' hv
    cases hv with
    | refl => exact .own0 hn
    | @sl _ s' _ nl' _ _ _ l' h1 h2 h3 =>
      have : l' = [] := List.eq_nil_of_length_eq_zero h2
      subst this
      exact .own0 (by rcases h1 with h1 | h1 <;> rw [h1] <;> first | exact hn | decide)
  | own1 hn =>
    intro v' hv
    cases hv with
    | refl => exact .own1 hn
    | @sl _ s' _ nl' _ _ _ l' h1 h2 h3 =>
      have : l' = [] := List.eq_nil_of_length_eq_zero h2
      subst this
      exact .own1 (by rcases h1 with h1 | h1 <;> rw [h1] <;> first | exact hn | decide)
  | any h => intro v' hv; cases hv; exact .any h
  | b x => intro v' hv; cases hv; exact .b x
  | i k n => intro v' hv; cases hv; exact .i k n
  | s x => intro v' hv; cases hv; exact .s x
  | fz hc hm hn h0 hA hl hr hd hw ih => intro v' hv; cases hv; exact .fz hc hm hn h0 hA hl hr hd hw
  | agg hl hg hr ih => intro v' hv; cases hv; exact .agg hl hg hr
  | fa hf hg hr hw => intro v' hv; cases hv; exact .fa hf hg hr hw
theorem NLe.le {v v' : AV} (h : NLe v v') (hs : ∃ s nl sz dp l, v = .sl (some s) nl sz dp l) : Le v v' := by
  obtain ⟨s, nl, sz, dp, l, rfl⟩ := hs
  have hv : ∃ s' nl' l', v' = .sl (some s') nl' sz dp l' := by
    cases h with
    | refl => exact ⟨_, _, _, rfl⟩
    | sl => exact ⟨_, _, _, rfl⟩
  obtain ⟨s', nl', l', rfl⟩ := hv
  exact ⟨rfl, fun {G g a w x ts} hr => ⟨ts, List.Sublist.refl _, NLe.rp (show Rp w G.F _ [x] ts from hr) h⟩, fun {w F y ts} hr => ⟨ts, List.Sublist.refl _, NLe.rp hr.rp h, fun l e => by cases e⟩, fun n hn => (by cases hn), fun e => (by cases e), fun k n e => (by cases e)⟩
theorem Le.refl' (v : AV) (hv : v.pst = []) : Le v v := ⟨hv, fun {G g a w x ts} h => ⟨ts, List.Sublist.refl _, h⟩, fun {w F y ts} h => ⟨ts, List.Sublist.refl _, h⟩, fun n h => h, fun h => h, fun k n h => h⟩
def pvOk1 (st : St) (v : AV) : Bool := match v with
  | .pv r [] [0] => Nat.blt r 1000 && (match st.get r with
    | .sl (some 0) _ _ _ _ => true
    | _ => false)
  | v => v.pst.isEmpty
def pvOkB (st : St) : St → Bool
  | [] => true
  | (_, v) :: r => pvOk1 st v && pvOkB st r
theorem pvOkB_get {st : St} : ∀ {r : St}, pvOkB st r = true → ∀ k, pvOk1 st (r.get k) = true
  | [], _, k => rfl
  | (l, v) :: r, h, k => by
    unfold pvOkB at h
    rw [Bool.and_eq_true] at h
    have e0 : St.get ((l, v) :: r) k = if l = k then v else St.get r k := rfl
    rw [e0]
    split
    · exact h.1
    · exact pvOkB_get h.2 k
theorem ptrN_get {st : St} : ∀ {r : St}, ptrB st r = true → ∀ k n, n ∈ (r.get k).pbx → st.get (loc n 999) ≠ .any
  | [], _, k, n, h => by cases h
  | (l, v) :: r, h, k, n, hn => by
    unfold ptrB at h
    rw [Bool.and_eq_true] at h
    have e0 : St.get ((l, v) :: r) k = if l = k then v else St.get r k := rfl
    rw [e0] at hn
    split at hn
    · have := List.all_eq_true.1 h.1 n hn
      unfold ptrB1 at this
      intro e
      rw [e] at this
      cases this
    · exact ptrN_get h.2 k n hn
/-- Of a place less is told. -/
theorem WP.nrm {P : Program} {W0 : Bs} {N : Nat} {c : Code} {st : St} {K : Exit → St → Prop} (l : Nat) (v' : AV) (h : st.getK l fun v => (NLe v v' ∧ (match v, v' with
  | .sl (some 0) _ _ _ _, .sl (some 0) _ _ _ _ => True
  | _, _ => False)) ∧ st.setK l v' fun st' => pvOkB st st = true ∧ ptrB st' st' = true ∧ WP P W0 N c st' K) : WP P W0 N c st K := by
  rw [St.getK_eq] at h
  obtain ⟨⟨h1, h2⟩, h3⟩ := h
  rw [St.setK_eq] at h3
  obtain ⟨h4, h5, h6⟩ := h3
  have hs : (∃ nl sz dp q, st.get l = .sl (some 0) nl sz dp q) ∧ ∃ nl sz dp q, v' = .sl (some 0) nl sz dp q := by
    split at h2
    · rename_i hv; exact ⟨⟨_, _, _, _, hv⟩, _, _, _, _, rfl⟩
    · exact h2.elim
  obtain ⟨⟨nl0, sz0, dp0, q0, hs1⟩, nl1, sz1, dp1, q1, hs2⟩ := hs
  have hle := h1.le ⟨_, _, _, _, _, hs1⟩
  constructor
  intro Q a w hsat hQ
  refine h6.run Q a w ?_ hQ
  obtain ⟨hp, G, hr⟩ := hsat
  have hget : ∀ k, (st.set l v').get k = if k = l then v' else st.get k := fun k => St.get_set st l v' k
  refine ⟨fun k s hk => ?_, ?_⟩
  · rw [hget] at hk
    split at hk
    · rw [hle.pl] at hk; cases hk
    · exact hp k s hk
  · refine hr.weak (g' := (st.set l v').get) (fun k => ?_) (fun k n hk => ptrN_get h5 k n hk)
    rw [hget]
    split
    · rename_i e; subst e; exact .inl hle
    · rename_i hkl
      have hok := pvOkB_get h4 k
      unfold pvOk1 at hok
      split at hok
      · rename_i r hv
        rw [Bool.and_eq_true, Nat.blt_eq] at hok
        refine .inr ⟨r, 0, ?_⟩
        have hr2 := hok.2
        split at hr2
        · rename_i nl sz dp c hc
          exact ⟨nl, sz, dp, c, hok.1, hv, hc, by rw [hget, if_neg hkl, hv]⟩
        · cases hr2
      · exact .inl (Le.refl' _ (by simpa using hok))
end Go.Proofs.Ytjihjjbieeofdaa.T
namespace Go.Proofs.Ytjihjjbieeofdaa.T
set_option linter.unusedSimpArgs false
set_option linter.unusedVariables false
open Go
set_option linter.unusedVariables false
set_option maxHeartbeats 8000000
set_option maxRecDepth 100000
theorem nd_set {α : Type} {f : α → AV} {K : List α} {n : Int} {m : Nat} {v : AV} {A : Prop} (h : 0 ≤ n ∧ n < (K.length : Int)) (hA : A) : (0 ≤ n ∧ n < (((gl f K).set m v).length : Int)) ∧ A := by rw [List.length_set, gl_len]; exact ⟨h, hA⟩
theorem mp_at {α : Type} {n : Nat} {F : Nat → α} {j : Nat} (h : j < (mp n F).length) : (mp n F)[j] = F j := (List.getElem_map F).trans (by rw [List.getElem_range])
end Go.Proofs.Ytjihjjbieeofdaa.T

