/- The length of a number in bits, the whole root by steps and bit by bit, and one by the root. Conditions: the bounds that each lemma names. -/
import Derived.Test.YtepbebelbcbciaaQx1
import Derived.Test.YtepbebelbcbciaaCurve
import Derived.Test.YtepbebelbcbciaaEv
import Derived.Test.YtepbebelbcbciaaNum
namespace Go.Proofs.Ytepbebelbcbciaa.Q
open Go.RowKit Go.Proofs.YtepbebelbcbciaaW.PrintWords Go.Proofs.YtepbebelbcbciaaW.PrintLast
set_option linter.unusedVariables false
set_option linter.unusedSimpArgs false

theorem wrap_three (n a b : Nat) (h : n + a + b ≤ 1000) (t : Nat) (ht : t ≤ 8) : wrap64 (wrap64 (wrap64 ((n : Int) + a) + b) + wrap64 (t : Int)) = ((n + (t + (a + b)) : Nat) : Int) := by
  rw [wrap64_id (x := (n : Int) + a) (by omega) (by omega), wrap64_id (x := (n : Int) + a + b) (by omega) (by omega), wrap64_id (x := (t : Int)) (by omega) (by omega), wrap64_id (by omega) (by omega)]
  omega
theorem wrap_two (n a : Nat) (h : n + a ≤ 1000) (t : Nat) (ht : t ≤ 8) : wrap64 (wrap64 ((n : Int) + a) + wrap64 (t : Int)) = ((n + (t + a) : Nat) : Int) := by
  rw [wrap64_id (x := (n : Int) + a) (by omega) (by omega), wrap64_id (x := (t : Int)) (by omega) (by omega), wrap64_id (by omega) (by omega)]
  omega
theorem wrap_one (n : Nat) (h : n ≤ 1000) (t : Nat) (ht : t ≤ 8) : wrap64 ((n : Int) + wrap64 (t : Int)) = ((n + t : Nat) : Int) := by
  rw [wrap64_id (x := (t : Int)) (by omega) (by omega), wrap64_id (by omega) (by omega)]
  omega
def lenTab : ByteArray := ⟨#[0, 1, 2, 2, 3, 3, 3, 3, 4, 4, 4, 4, 4, 4, 4, 4, 5, 5, 5, 5, 5, 5, 5, 5, 5, 5, 5, 5, 5, 5, 5, 5, 6, 6, 6, 6, 6, 6, 6, 6, 6, 6, 6, 6, 6, 6, 6, 6, 6, 6, 6, 6, 6, 6, 6, 6, 6, 6, 6, 6, 6, 6, 6, 6, 7, 7, 7, 7, 7, 7, 7, 7, 7, 7, 7, 7, 7, 7, 7, 7, 7, 7, 7, 7, 7, 7, 7, 7, 7, 7, 7, 7, 7, 7, 7, 7, 7, 7, 7, 7, 7, 7, 7, 7, 7, 7, 7, 7, 7, 7, 7, 7, 7, 7, 7, 7, 7, 7, 7, 7, 7, 7, 7, 7, 7, 7, 7, 7, 8, 8, 8, 8, 8, 8, 8, 8, 8, 8, 8, 8, 8, 8, 8, 8, 8, 8, 8, 8, 8, 8, 8, 8, 8, 8, 8, 8, 8, 8, 8, 8, 8, 8, 8, 8, 8, 8, 8, 8, 8, 8, 8, 8, 8, 8, 8, 8, 8, 8, 8, 8, 8, 8, 8, 8, 8, 8, 8, 8, 8, 8, 8, 8, 8, 8, 8, 8, 8, 8, 8, 8, 8, 8, 8, 8, 8, 8, 8, 8, 8, 8, 8, 8, 8, 8, 8, 8, 8, 8, 8, 8, 8, 8, 8, 8, 8, 8, 8, 8, 8, 8, 8, 8, 8, 8, 8, 8, 8, 8, 8, 8, 8, 8, 8, 8, 8, 8, 8, 8, 8, 8, 8, 8, 8, 8, 8, 8]⟩
theorem len_tab : ∀ i : Fin 256, (i.val : Int) < 2 ^ (bt lenTab (i.val : Int)).toNat ∧ 0 ≤ bt lenTab (i.val : Int) ∧ bt lenTab (i.val : Int) ≤ 8 := by decide +kernel
theorem len_tab_int (i : Int) (h0 : 0 ≤ i) (h1 : i < 256) : ∃ t : Nat, Aside0 (bt lenTab i = t) ∧ t ≤ 8 ∧ i < 2 ^ t := by
  obtain ⟨n, rfl⟩ := Int.eq_ofNat_of_zero_le h0
  have hn : n < 256 := by omega
  have h := len_tab ⟨n, hn⟩
  simp only at h
  generalize bt lenTab (n : Int) = b at *
  exact ⟨b.toNat, ⟨by omega⟩, by omega, h.1⟩
theorem two_pow_add (x i c : Int) (t m : Nat) (hc : c = 2 ^ m) (h0 : x < (i + 1) * c) (h1 : i < 2 ^ t) : x < 2 ^ (t + m) := by
  have hp : (0 : Int) < 2 ^ m := Int.pow_pos (by decide)
  have h2 : (i + 1) * 2 ^ m ≤ 2 ^ t * 2 ^ m := Int.mul_le_mul_of_nonneg_right (by omega) (by omega)
  rw [Int.pow_add]
  subst hc
  omega
theorem len_j0 (x : Int) (n : Nat) (h0 : 0 ≤ x) (h1 : x < 4294967296) (hn : n ≤ 32) : ∃ L : Nat, L ≤ 32 ∧ x < 2 ^ L ∧ Ev (fun k => bits_Len64.j0 k x (n : Int)) ((n + L : Nat) : Int) := by
  have e : ∀ k x0 x2, bits_Len64.j0 (k + 1) x0 x2 = if x0 ≥ 65536 then (if (x0 / 65536) ≥ 256 then (if 0 ≤ (((x0 / 65536) / 256) % 256) then (if (((x0 / 65536) / 256) % 256) < 256 then (some (wrap64 ((wrap64 ((wrap64 (x2 + 16)) + 8)) + (wrap64 (bt lenTab (((x0 / 65536) / 256) % 256)))))) else (none)) else (none)) else (if 0 ≤ ((x0 / 65536) % 256) then (if ((x0 / 65536) % 256) < 256 then (some (wrap64 ((wrap64 (x2 + 16)) + (wrap64 (bt lenTab ((x0 / 65536) % 256)))))) else (none)) else (none))) else (if x0 ≥ 256 then (if 0 ≤ ((x0 / 256) % 256) then (if ((x0 / 256) % 256) < 256 then (some (wrap64 ((wrap64 (x2 + 8)) + (wrap64 (bt lenTab ((x0 / 256) % 256)))))) else (none)) else (none)) else (if 0 ≤ ((x0) % 256) then (if ((x0) % 256) < 256 then (some (wrap64 (x2 + (wrap64 (bt lenTab ((x0) % 256)))))) else (none)) else (none))) := fun k x0 x2 => bits_Len64.j0.eq_2 ..
  by_cases c1 : x ≥ 65536
  · by_cases c2 : x / 65536 ≥ 256
    · obtain ⟨t, ht, ht8, hlt⟩ := len_tab_int (x / 65536 / 256 % 256) (by omega) (by omega)
      refine ⟨t + 24, by omega, two_pow_add x (x / 65536 / 256 % 256) 16777216 t 24 (by decide) (by omega) hlt, ?_⟩
      refine Ev.step (fun k => e ..) (ev_pos c1 (ev_pos c2 (ev_pos (by omega) (ev_pos (by omega) ?_))))
      rw [ht.out]
      exact ev_eq (Ev.now _) (wrap_three n 16 8 (by omega) t ht8)
    · obtain ⟨t, ht, ht8, hlt⟩ := len_tab_int (x / 65536 % 256) (by omega) (by omega)
      refine ⟨t + 16, by omega, two_pow_add x (x / 65536 % 256) 65536 t 16 (by decide) (by omega) hlt, ?_⟩
      refine Ev.step (fun k => e ..) (ev_pos c1 (ev_neg c2 (ev_pos (by omega) (ev_pos (by omega) ?_))))
      rw [ht.out]
      exact ev_eq (Ev.now _) (wrap_two n 16 (by omega) t ht8)
  · by_cases c2 : x ≥ 256
    · obtain ⟨t, ht, ht8, hlt⟩ := len_tab_int (x / 256 % 256) (by omega) (by omega)
      refine ⟨t + 8, by omega, two_pow_add x (x / 256 % 256) 256 t 8 (by decide) (by omega) hlt, ?_⟩
      refine Ev.step (fun k => e ..) (ev_neg c1 (ev_pos c2 (ev_pos (by omega) (ev_pos (by omega) ?_))))
      rw [ht.out]
      exact ev_eq (Ev.now _) (wrap_two n 8 (by omega) t ht8)
    · obtain ⟨t, ht, ht8, hlt⟩ := len_tab_int (x % 256) (by omega) (by omega)
      refine ⟨t, by omega, by have e2 : x % 256 = x := by omega
                              rwa [e2] at hlt, ?_⟩
      refine Ev.step (fun k => e ..) (ev_neg c1 (ev_neg c2 (ev_pos (by omega) (ev_pos (by omega) ?_))))
      rw [ht.out]
      exact ev_eq (Ev.now _) (wrap_one n (by omega) t ht8)
theorem len64_ev (x : Int) (h0 : 1 ≤ x) (h1 : x ≤ 281474976710656) : ∃ L : Nat, L ≤ 64 ∧ x < 2 ^ L ∧ Ev (fun k => bits_Len64.f k x) (L : Int) := by
  by_cases c : x ≥ 4294967296
  · obtain ⟨L, hL, hx, hev⟩ := len_j0 (x / 4294967296) 32 (by omega) (by omega) (by omega)
    refine ⟨32 + L, by omega, ?_, ?_⟩
    · rw [Nat.add_comm]
      exact two_pow_add x (x / 4294967296) 4294967296 L 32 (by decide) (by omega) hx
    · unfold bits_Len64.f
      exact ev_pos c hev
  · obtain ⟨L, hL, hx, hev⟩ := len_j0 x 0 (by omega) (by omega) (by omega)
    refine ⟨L, by omega, hx, ?_⟩
    unfold bits_Len64.f
    refine ev_neg c ?_
    rw [Nat.zero_add] at hev
    exact hev
theorem curve_Root_ev {x : Int} (h0 : 1 ≤ x) (h1 : x ≤ 281474976710656) : Ev (fun k => curve_Root.f k x) (sRoot x) := by
  obtain ⟨L, hL, hx, hev⟩ := len64_ev x h0 h1
  unfold curve_Root.f
  refine ev_neg (by omega) (Ev.bind hev ?_)
  have w : wrap64 (Int.tdiv (wrap64 ((L : Int) + 1)) 2) = (((L + 1) / 2 : Nat) : Int) := by
    rw [wrap64_id (x := (L : Int) + 1) (by omega) (by omega), tdiv_pos (by omega)]
    exact (wrap64_id (by omega) (by omega)).trans (by omega)
  rw [w]
  refine ev_pos (by omega) ?_
  obtain ⟨s, hs⟩ : ∃ s, s = (L + 1) / 2 := ⟨_, rfl⟩
  rw [← hs]
  have hs32 : s ≤ 32 := by omega
  have p0 : (0 : Int) < 2 ^ s := Int.pow_pos (by decide)
  have p1 : (2 : Int) ^ s ≤ 4294967296 := by
    have := Nat.pow_le_pow_right (n := 2) (by decide) hs32
    have e : (2 : Nat) ^ 32 = 4294967296 := by decide
    have : (2 : Nat) ^ s ≤ 4294967296 := by omega
    have h := Int.ofNat_le.mpr this
    rw [Int.natCast_pow] at h
    exact h
  have sh : shl .u64 1 (s : Int) = 2 ^ s := by
    unfold shl
    have : min (s : Int).toNat (IntKind.u64).bits = s := by
      show min (s : Int).toNat 64 = s
      omega
    rw [this, Int.one_mul]
    exact u64_id (by omega) (by omega)
  rw [sh]
  refine root_loop h0 h1 _ _ (Nat.le_refl _) p0 p1 ?_
  have q : (2 : Int) ^ L ≤ 2 ^ s * 2 ^ s := by
    rw [← Int.pow_add]
    have := Nat.pow_le_pow_right (n := 2) (by decide) (show L ≤ s + s by omega)
    have h := Int.ofNat_le.mpr this
    rw [Int.natCast_pow, Int.natCast_pow] at h
    exact h
  have q2 : (2 : Int) ^ s * 2 ^ s ≤ (2 ^ s + 1) * (2 ^ s + 1) := Int.mul_le_mul (by omega) (by omega) (by omega) (by omega)
  omega
/-- One by the root. -/
noncomputable def sInv (x : Int) : Int := if x ≤ 0 then 2147483647 else sRoot (281474976710656 / x)
theorem sRoot_bounds {x : Int} (h0 : 0 ≤ x) (h1 : x ≤ 281474976710656) : IsRoot (sRoot x) x := by
  -- there is a root
  have key : ∃ r, IsRoot r x := by
    have : ∀ n : Nat, ∃ r : Int, 0 ≤ r ∧ r * r ≤ n ∧ (n : Int) < (r + 1) * (r + 1) := by
      intro n
      induction n with
      | zero => exact ⟨0, by omega, by omega, by omega⟩
      | succ n ih =>
        obtain ⟨r, a, b, c⟩ := ih
        by_cases h : (r + 1) * (r + 1) ≤ ((n + 1 : Nat) : Int)
        · refine ⟨r + 1, by omega, h, ?_⟩
          have e : (r + 1 + 1) * (r + 1 + 1) = (r + 1) * (r + 1) + 2 * r + 3 := by grind
          omega
        · exact ⟨r, a, by omega, by omega⟩
    obtain ⟨r, a, b, c⟩ := this x.toNat
    exact ⟨r, a, by omega, by omega⟩
  obtain ⟨r, hr⟩ := key
  rw [sRoot_eq hr]
  exact hr
theorem sRoot_le {x : Int} (h0 : 0 ≤ x) (h1 : x ≤ 281474976710656) : 0 ≤ sRoot x ∧ sRoot x ≤ 16777216 := by
  obtain ⟨a, b, c⟩ := sRoot_bounds h0 h1
  refine ⟨a, ?_⟩
  by_cases h : sRoot x ≤ 16777216
  · exact h
  · have : (16777217 : Int) * 16777217 ≤ sRoot x * sRoot x := Int.mul_le_mul (by omega) (by omega) (by omega) (by omega)
    omega
theorem inv_arg {x : Int} (h : 1 ≤ x) (h2 : x ≤ 2147483647) : 131072 ≤ 281474976710656 / x ∧ 281474976710656 / x ≤ 281474976710656 :=
  ⟨Int.le_ediv_of_mul_le (by omega) (by omega), Int.ediv_le_self _ (by decide)⟩
theorem sInv_i32 {x : Int} (h : I32 x) : 0 ≤ sInv x ∧ sInv x ≤ 2147483647 := by
  unfold sInv
  split
  · omega
  · have := inv_arg (x := x) (by omega) h.2
    have := sRoot_le (x := 281474976710656 / x) (by omega) (by omega)
    omega
theorem curve_Inverse_ev {x : Int} (h : I32 x) : Ev (fun k => curve_Inverse.f k x) (sInv x) := by
  have h1 := h.1
  have h2 := h.2
  unfold curve_Inverse.f sInv
  by_cases c : x ≤ 0
  · rw [if_pos c]
    exact ev_pos c (Ev.now _)
  · rw [if_neg c]
    have ha := inv_arg (x := x) (by omega) h2
    refine ev_neg c ?_
    rw [u64_id (x := x) (by omega) (by omega)]
    refine ev_neg (by omega) ?_
    rw [tdiv_pos (by decide), u64_id (by omega) (by omega)]
    refine Ev.bind (curve_Root_ev (by omega) (by omega)) ?_
    have := sRoot_le (x := 281474976710656 / x) (by omega) (by omega)
    rw [wrap32_id (by omega) (by omega)]
    exact Ev.now _
end Go.Proofs.Ytepbebelbcbciaa.Q
