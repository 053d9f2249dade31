/- What functions of the program come to, on trees. No condition but those that the theorems name. -/
import Derived.Test.YtcngjnhdemjomaaPC9
namespace Go.Proofs.Ytcngjnhdemjomaa.T
set_option linter.unusedSimpArgs false
set_option linter.unusedVariables false
open Go
set_option linter.unusedVariables false
set_option maxHeartbeats 8000000
set_option maxRecDepth 100000
/-- So many lists of so many rows of so many numbers. -/
def Shp3 (L m D : Nat) (K : List (List (List Int))) : Prop := K.length = L ∧ ∀ r ∈ K, r.length = m ∧ ∀ x ∈ r, x.length = D
def set3 (K : List (List (List Int))) (l i j : Nat) (v : Int) : List (List (List Int)) := K.set l ((K.getD l []).set i (((K.getD l []).getD i []).set j v))
theorem mem_set {α : Type} {l : List α} {i : Nat} {a x : α} (h : x ∈ l.set i a) : x ∈ l ∨ x = a := List.mem_or_eq_of_mem_set h
theorem shp3_set {L m D : Nat} {K : List (List (List Int))} {l i j : Nat} {v : Int} (h : Shp3 L m D K) (hl : l < L) (hi : i < m) : Shp3 L m D (set3 K l i j v) := by
  unfold set3
  have h1 := h.2 _ (getD_in (l := K) (i := l) [] (by have := h.1; omega))
  have h2 := h1.2 _ (getD_in (l := K.getD l []) (i := i) [] (by have := h1.1; omega))
  refine ⟨by rw [List.length_set]; exact h.1, fun r hr => ?_⟩
  rcases mem_set hr with hr | rfl
  · exact h.2 r hr
  · refine ⟨by rw [List.length_set]; exact h1.1, fun x hx => ?_⟩
    rcases mem_set hx with hx | rfl
    · exact h1.2 x hx
    · rw [List.length_set]; exact h2
/-- What a token more comes to, whatever it is. -/
theorem feed_any {c : Cfg} {V D n H L s : Nat} {w : Wts} {t : List Int} (q : Int) (hc : CfgG c V D n H L s) (hg : WtsG V D H L w) (ht : ∀ x ∈ t, 0 ≤ x ∧ x < (V : Int)) (hl : t.length ≤ 127) : ∃ (T : List Int) (K W : List (List (List Int))) (f : List Int) (e : Int), (∀ {n1 n2 n3 : Option Bool}, Impl Try.prog 34 [cfgA c, wtsA none none w, .agg [.sl none n1 1 false (ints .i64 t), .sl none n2 1 true (gl (rowsA none) (vK D H s w t)), .sl none n3 1 true (gl (rowsA none) (vV D H s w t))], .i .i64 q] (.tup [viewW T K W, rowA (some 0) f, .i .i64 e])) ∧ T.length ≤ 130 ∧ Sm3 K ∧ Sm3 W ∧ (e = 0 ∨ q < 0 ∨ c.vocab ≤ q) ∧ ∃ L' m', L' ≤ 4 ∧ m' ≤ 130 ∧ Shp3 L' m' D K ∧ Shp3 L' m' D W := by
  by_cases h : 0 ≤ q ∧ q < (V : Int)
  · obtain ⟨p, rfl⟩ : ∃ p : Nat, q = p := ⟨q.toNat, by omega⟩
    have hT : ∀ x ∈ t ++ [(p : Int)], 0 ≤ x ∧ x < (V : Int) := fun x hx => by
      rcases List.mem_append.1 hx with hx | hx
      · exact ht x hx
      · have := List.mem_singleton.1 hx; omega
    have hTl : (t ++ [(p : Int)]).length = t.length + 1 := by simp
    have hv := vw_good (D := D) (H := H) (s := s) hg hT (by omega)
    obtain ⟨b1, b2⟩ := vw_sm hv (by have := hc.gd; have := hc.gl; omega)
    obtain ⟨h1, h2, h3, h4, h5⟩ := hv
    refine ⟨_, _, _, _, _, fun {n1 n2 n3} => feed_ok hc hg ht hl (by omega), by omega, b1, b2, .inl rfl, L, t.length + 1, by have := hc.gl; omega, by omega, ⟨by omega, fun r hr => ⟨by have := (h4 r hr).1; omega, fun x hx => ((h4 r hr).2 x hx).1⟩⟩, ⟨by omega, fun r hr => ⟨by have := (h5 r hr).1; omega, fun x hx => ((h5 r hr).2 x hx).1⟩⟩⟩
  · refine ⟨[], [], [], [], 7, fun {n1 n2 n3} => feed_bad hc hg (vw_good hg ht (by omega)) hl (by omega), by decide, sm_nil, sm_nil, .inr (by have := hc.gv; omega), 0, 0, by omega, by omega, ⟨rfl, fun r hr => by cases hr⟩, ⟨rfl, fun r hr => by cases hr⟩⟩
theorem set3_W {K : List (List (List Int))} {l i j : Nat} {v : Int} : (gl rowsW K).set ((l : Nat) : Int).toNat (.sl (some 0) none 1 true ((gl (rowA (some 0)) (K.getD l [])).set ((i : Nat) : Int).toNat (.sl (some 0) none 1 false ((ints .i32 ((K.getD l []).getD i [])).set ((j : Nat) : Int).toNat (.i .i32 v))))) = gl rowsW (set3 K l i j v) := by
  rw [Int.toNat_natCast, Int.toNat_natCast, Int.toNat_natCast, ints_set]
  unfold set3 gl
  rw [List.map_set]
  show _ = (List.map rowsW K).set l (.sl (some 0) none 1 true (List.map (rowA (some 0)) ((K.getD l []).set i (((K.getD l []).getD i []).set j v))))
  rw [List.map_set]
theorem shp3_at {L m D : Nat} {K : List (List (List Int))} {l : Nat} (h : Shp3 L m D K) (hl : l < L) : (gl rowsW K)[((l : Nat) : Int).toNat]? = some (rowsW (K.getD l [])) ∧ (K.getD l []).length = m ∧ ∀ i, i < m → (gl (rowA (some 0)) (K.getD l []))[((i : Nat) : Int).toNat]? = some (rowA (some 0) ((K.getD l []).getD i [])) ∧ ((K.getD l []).getD i []).length = D := by
  have h0 := h.1
  have h1 := h.2 _ (getD_in (l := K) (i := l) [] (by omega))
  refine ⟨gl_at [] (by omega), h1.1, fun i hi => ⟨gl_at [] (by have := h1.1; omega), h1.2 _ (getD_in (l := K.getD l []) (i := i) [] (by have := h1.1; omega))⟩⟩
abbrev NKW : Type := Nat × List (List (List Int)) × List (List (List Int))
def eStepKeeps : Env := ⟨tbl, [], [], [], [(0, [1, 2, 3, 4, 5, 6999, 6000, 6001, 6002, 6003, 6004]), (1, [1, 2, 3, 4, 5, 6999, 6000, 6001, 6002, 6003, 6004]), (2, [2, 3, 4, 5, 11, 12, 6999, 6000, 6001, 6002, 6003, 6004, 12999, 12000, 12001, 12002, 12003, 12004, 12005, 12006, 12007]), (3, [2, 3, 4, 5, 11, 43, 6999, 6000, 6001, 6002, 6003, 6004, 12999, 12000, 12001, 12002, 12003, 12004, 12005, 12006, 12007]), (4, [10]), (5, [3, 4, 5, 11, 13, 15, 6999, 6000, 6001, 6002, 6003, 6004, 12999, 12000, 12001, 12002, 12003, 12004, 12005, 12006, 12007, 14999, 14000, 14001, 14002]), (6, [3, 4, 5, 11, 13, 55, 6999, 6000, 6001, 6002, 6003, 6004, 12999, 12000, 12001, 12002, 12003, 12004, 12005, 12006, 12007, 14999, 14000, 14001, 14002]), (7, [10]), (8, [3, 4, 5, 11, 13, 16, 6999, 6000, 6001, 6002, 6003, 6004, 12999, 12000, 12001, 12002, 12003, 12004, 12005, 12006, 12007, 14999, 14000, 14001, 14002, 17999, 17000, 17001, 17002]), (9, [3, 4, 5, 11, 13, 16, 17, 19, 6999, 6000, 6001, 6002, 6003, 6004, 12999, 12000, 12001, 12002, 12003, 12004, 12005, 12006, 12007, 14999, 14000, 14001, 14002, 17999, 17000, 17001, 17002, 18999, 18000, 18001, 18002]), (10, [3, 4, 5, 11, 13, 16, 17, 19, 73, 6999, 6000, 6001, 6002, 6003, 6004, 12999, 12000, 12001, 12002, 12003, 12004, 12005, 12006, 12007, 14999, 14000, 14001, 14002, 17999, 17000, 17001, 17002, 18999, 18000, 18001, 18002]), (11, [10]), (12, [3, 4, 5, 11, 13, 16, 17, 19, 20, 22, 6999, 6000, 6001, 6002, 6003, 6004, 12999, 12000, 12001, 12002, 12003, 12004, 12005, 12006, 12007, 14999, 14000, 14001, 14002, 17999, 17000, 17001, 17002, 18999, 18000, 18001, 18002, 21999, 21000, 21001, 21002]), (13, [3, 4, 5, 11, 13, 16, 17, 19, 20, 22, 87, 6999, 6000, 6001, 6002, 6003, 6004, 12999, 12000, 12001, 12002, 12003, 12004, 12005, 12006, 12007, 14999, 14000, 14001, 14002, 17999, 17000, 17001, 17002, 18999, 18000, 18001, 18002, 21999, 21000, 21001, 21002]), (14, [10]), (15, [3, 4, 5, 11, 13, 16, 17, 19, 20, 22, 91, 92, 6999, 6000, 6001, 6002, 6003, 6004, 12999, 12000, 12001, 12002, 12003, 12004, 12005, 12006, 12007, 14999, 14000, 14001, 14002, 17999, 17000, 17001, 17002, 18999, 18000, 18001, 18002, 21999, 21000, 21001, 21002]), (16, [3, 4, 5, 11, 13, 16, 17, 19, 20, 22, 91, 92, 93, 6999, 6000, 6001, 6002, 6003, 6004, 12999, 12000, 12001, 12002, 12003, 12004, 12005, 12006, 12007, 14999, 14000, 14001, 14002, 17999, 17000, 17001, 17002, 18999, 18000, 18001, 18002, 21999, 21000, 21001, 21002]), (17, [3, 4, 5, 11, 13, 16, 17, 19, 20, 22, 23, 91, 92, 6999, 6000, 6001, 6002, 6003, 6004, 12999, 12000, 12001, 12002, 12003, 12004, 12005, 12006, 12007, 14999, 14000, 14001, 14002, 17999, 17000, 17001, 17002, 18999, 18000, 18001, 18002, 21999, 21000, 21001, 21002]), (18, [3, 4, 5, 11, 13, 16, 17, 19, 20, 22, 23, 91, 92, 101, 102, 6999, 6000, 6001, 6002, 6003, 6004, 12999, 12000, 12001, 12002, 12003, 12004, 12005, 12006, 12007, 14999, 14000, 14001, 14002, 17999, 17000, 17001, 17002, 18999, 18000, 18001, 18002, 21999, 21000, 21001, 21002]), (19, [3, 4, 5, 11, 13, 16, 17, 19, 20, 22, 23, 91, 92, 101, 102, 103, 6999, 6000, 6001, 6002, 6003, 6004, 12999, 12000, 12001, 12002, 12003, 12004, 12005, 12006, 12007, 14999, 14000, 14001, 14002, 17999, 17000, 17001, 17002, 18999, 18000, 18001, 18002, 21999, 21000, 21001, 21002]), (20, [3, 4, 5, 11, 13, 16, 17, 19, 20, 22, 23, 24, 91, 92, 101, 102, 6999, 6000, 6001, 6002, 6003, 6004, 12999, 12000, 12001, 12002, 12003, 12004, 12005, 12006, 12007, 14999, 14000, 14001, 14002, 17999, 17000, 17001, 17002, 18999, 18000, 18001, 18002, 21999, 21000, 21001, 21002]), (21, [3, 4, 5, 11, 13, 16, 17, 19, 20, 22, 23, 24, 91, 92, 101, 102, 114, 115, 6999, 6000, 6001, 6002, 6003, 6004, 12999, 12000, 12001, 12002, 12003, 12004, 12005, 12006, 12007, 14999, 14000, 14001, 14002, 17999, 17000, 17001, 17002, 18999, 18000, 18001, 18002, 21999, 21000, 21001, 21002]), (22, [3, 4, 5, 11, 13, 16, 17, 19, 20, 22, 23, 24, 91, 92, 101, 102, 114, 115, 116, 6999, 6000, 6001, 6002, 6003, 6004, 12999, 12000, 12001, 12002, 12003, 12004, 12005, 12006, 12007, 14999, 14000, 14001, 14002, 17999, 17000, 17001, 17002, 18999, 18000, 18001, 18002, 21999, 21000, 21001, 21002]), (23, [3, 4, 5, 11, 13, 16, 17, 19, 20, 22, 23, 24, 25, 91, 92, 101, 102, 114, 115, 6999, 6000, 6001, 6002, 6003, 6004, 12999, 12000, 12001, 12002, 12003, 12004, 12005, 12006, 12007, 14999, 14000, 14001, 14002, 17999, 17000, 17001, 17002, 18999, 18000, 18001, 18002, 21999, 21000, 21001, 21002]), (24, [3, 4, 5, 11, 13, 16, 17, 19, 20, 22, 23, 24, 25, 91, 92, 101, 102, 114, 115, 6999, 6000, 6001, 6002, 6003, 6004, 12999, 12000, 12001, 12002, 12003, 12004, 12005, 12006, 12007, 14999, 14000, 14001, 14002, 17999, 17000, 17001, 17002, 18999, 18000, 18001, 18002, 21999, 21000, 21001, 21002]), (25, [3, 4, 5, 11, 13, 16, 17, 19, 20, 22, 23, 24, 91, 92, 101, 102, 114, 115, 6999, 6000, 6001, 6002, 6003, 6004, 12999, 12000, 12001, 12002, 12003, 12004, 12005, 12006, 12007, 14999, 14000, 14001, 14002, 17999, 17000, 17001, 17002, 18999, 18000, 18001, 18002, 21999, 21000, 21001, 21002]), (26, [3, 4, 5, 11, 13, 16, 17, 19, 20, 22, 23, 24, 91, 92, 101, 102, 114, 115, 6999, 6000, 6001, 6002, 6003, 6004, 12999, 12000, 12001, 12002, 12003, 12004, 12005, 12006, 12007, 14999, 14000, 14001, 14002, 17999, 17000, 17001, 17002, 18999, 18000, 18001, 18002, 21999, 21000, 21001, 21002]), (27, [3, 4, 5, 11, 13, 16, 17, 19, 20, 22, 23, 91, 92, 101, 102, 6999, 6000, 6001, 6002, 6003, 6004, 12999, 12000, 12001, 12002, 12003, 12004, 12005, 12006, 12007, 14999, 14000, 14001, 14002, 17999, 17000, 17001, 17002, 18999, 18000, 18001, 18002, 21999, 21000, 21001, 21002]), (28, [3, 4, 5, 11, 13, 16, 17, 19, 20, 22, 91, 92, 6999, 6000, 6001, 6002, 6003, 6004, 12999, 12000, 12001, 12002, 12003, 12004, 12005, 12006, 12007, 14999, 14000, 14001, 14002, 17999, 17000, 17001, 17002, 18999, 18000, 18001, 18002, 21999, 21000, 21001, 21002]), (29, [4, 5, 13, 16, 17, 19, 22, 26, 28, 6999, 6000, 6001, 6002, 6003, 6004, 14999, 14000, 14001, 14002, 17999, 17000, 17001, 17002, 18999, 18000, 18001, 18002, 27999, 27000, 27001, 27002]), (30, [10])]⟩
theorem stepkeeps_law (c : Cfg) (seed : Int) (t : List Int) (a b : Int) (hseed : IntKind.u64.min ≤ seed ∧ seed ≤ IntKind.u64.max) (ht : IntsW t) (ha : IntKind.i64.min ≤ a ∧ a ≤ IntKind.i64.max) (hb : IntKind.i64.min ≤ b ∧ b ≤ IntKind.i64.max) : Impl Try.prog 8 [cfgA c, .i .u64 seed, .sl none none 1 false (ints .i64 t), .i .i64 a, .i .i64 b] (.b true) := by
  have hF : ∀ {no : Option Bool}, Impl Try.prog 16 [.sl none no 1 false (ints .i64 t), .i .i64 6] (.sl (some 0) none 1 false (ints .i64 (t.take 6))) := fun {no} => few8_ok 6 ht.1 (by omega)
  have htl : (t.take 6).length ≤ 6 := by rw [List.length_take]; omega
  generalize t.take 6 = t1 at *
  obtain ⟨sc, hsm, h0⟩ : ∃ (sc : Int), Impl Try.prog 15 [cfgA c] (.i .i64 sc) ∧ (sc = 0 ∨ sc = 1) := by
    have := small_ok c
    by_cases h : small c
    · rw [if_pos h] at this; exact ⟨1, this, .inr rfl⟩
    · rw [if_neg h] at this; exact ⟨0, this, .inl rfl⟩
  by_cases hsh : shp c = 0
  · obtain ⟨V, D, nh, H, L, s, hc⟩ := shp_good hsh
    have hM := make_goodC hc hseed
    have hg : WtsG V D H L (sMake seed V D H L) := make_good (by have := hc.gv; omega) hc.gd.2 hc.gh.2
    generalize sMake seed V D H L = w at *
    by_cases hp : sc = 1 ∧ prm c.vocab t1 = 0
    · obtain ⟨rfl, hp⟩ := hp
      have hA := fun {nt : Option Bool} => all_new (nt := nt) hc hg hp
      obtain ⟨p1, p2, p3⟩ := prm_zero hp
      have hV : ∀ x ∈ t1, 0 ≤ x ∧ x < (V : Int) := fun x hx => by have := p3 x hx; have := hc.gv; omega
      obtain ⟨b1, b2⟩ := vw_sm (vw_good (D := D) (H := H) (s := s) hg hV p2) (by have := hc.gd; have := hc.gl; omega)
      have hT := fun {n1 n2 n3 : Option Bool} => told9_small (n1 := n1) (n2 := n2) (n3 := n3) (t := t1) (by omega) b1 b2
      have hS := fun {m1 m2 m3 n1 n2 n3 : Option Bool} => same9_small (m1 := m1) (m2 := m2) (m3 := m3) (n1 := n1) (n2 := n2) (n3 := n3) (t := t1) (by omega) b1 b2
      have hC := fun {n1 n2 n3 : Option Bool} => copy_ok (n1 := n1) (n2 := n2) (n3 := n3) (t := t1) (by omega) (sm_siz b1) (sm_siz b2)
      obtain ⟨Ta, Ka, Wa, fa, ea, hFa, a1, a2, a3, _, _⟩ := feed_any a hc hg hV (by omega)
      obtain ⟨Tb, Kb, Wb, fb, eb, hFb, _, _, _, e4, L', m', q1, q2, q3, q4⟩ := feed_any b hc hg hV (by omega)
      have hTa := fun {n1 n2 n3 : Option Bool} => told9_small (n1 := n1) (n2 := n2) (n3 := n3) (t := Ta) a1 a2 a3
      have hSa := fun {m1 m2 m3 n1 n2 n3 : Option Bool} => same9_small (m1 := m1) (m2 := m2) (m3 := m3) (n1 := n1) (n2 := n2) (n3 := n3) (t := Ta) a1 a2 a3
      have hlb := q3.1
      have hDl := hc.gd
      clear hg hp p3 hV b1 b2 a1 a2 a3
      generalize sFull V D H s w t1 = fu at *
      generalize vK D H s w t1 = k1 at *
      generalize vV D H s w t1 = v1 at *
      refine impl_of (fn := Try.f8) tbl_ok (by kernel_rfl) (by kernel_rfl) rfl ⟨by simp [Try.f8], by decide⟩ rfl fun W0 => ?_
      repeat' first
        | apply WP.seq
        | (apply WP.region (E := eStepKeeps) mixed tbl_ok; conv => whnf)
        | (apply WP.cond; conv => whnf)
        | (apply WP.skip; conv => whnf)
        | apply WP.block
        | (rw [fz_blks]; conv => whnf)
        | (rw [fz_nil]; conv => whnf)
        | (rw [fz_rowsW]; conv => whnf)
        | (rw [fz_rows3]; conv => whnf)
        | (apply reg_and; (· kernel_rfl); conv => whnf)
        | (apply ex_and; (· with_reducible exact hF); conv => whnf)
        | (apply ex_and; (· with_reducible exact hM); conv => whnf)
        | (apply ex_and; (· with_reducible exact hsm); conv => whnf)
        | (apply ex_and; (· with_reducible exact hA); conv => whnf)
        | (apply ex_and; (· with_reducible exact hC); conv => whnf)
        | (apply ex_and; (· with_reducible exact hT); conv => whnf)
        | (apply ex_and; (· with_reducible exact hS); conv => whnf)
        | (apply ex_and; (· with_reducible exact hFa); conv => whnf)
        | (apply ex_and; (· with_reducible exact hFb); conv => whnf)
        | (apply ex_glen; conv => whnf)
        | (apply ex_eq; conv => whnf)
        | (apply gd_br)
        | (apply And.intro; (· first | with_reducible rfl | exact trivial | exact Or.inl ⟨rfl, rfl⟩ | exact Or.inr rfl | decide | omega | (apply Nat.le_of_ble_eq_true; rfl) | (dsimp only; omega) | (simp only [ints_len, gl_len, mp_len, List.length_cons, List.length_nil, List.length_drop, List.length_take]; omega)); conv => whnf)
        | apply br_not
        | (apply br_t; conv => whnf)
        | (apply br_f; conv => whnf)
        | fail
      refine WP.loopM [23, 24, 25, 92, 93, 101, 102, 103, 114, 115, 116, 21001, 21002] (fun x : NKW => [(92, .i .i64 x.1), (21001, rows3W x.2.1), (21002, rows3W x.2.2)]) (fun x => x.1 ≤ L' ∧ Shp3 L' m' D x.2.1 ∧ Shp3 L' m' D x.2.2) (fun x => L' - x.1) (0, Kb, Wb) ?_
      conv => whnf
      refine And.intro (And.intro ?_ ?_) (fun x hx => ?_)
      · exact ⟨Nat.zero_le _, q3, q4⟩
      · conv => whnf
        repeat' first
          | apply True.intro
          | (apply ptr_and; (· kernel_rfl); conv => whnf)
          | omega
          | (apply Or.inr; rfl)
          | (apply or_row; (· rfl); (· rfl); rfl)
          | (apply And.intro <;> conv => whnf)
          | fail
      conv => whnf
      obtain ⟨l, K1, W1⟩ := x
      obtain ⟨hx1, hx2, hx3⟩ := hx
      dsimp only at hx1 hx2 hx3 ⊢
      by_cases hl : l < L'
      · obtain ⟨r1, r2, r3⟩ := shp3_at hx2 hl
        have n1 := hx2.1
        have n2 := hx3.1
        repeat' first
          | apply WP.seq
          | (apply WP.region (E := eStepKeeps) mixed tbl_ok; conv => whnf)
          | (apply WP.cond; conv => whnf)
          | (apply WP.skip; conv => whnf)
          | apply WP.block
          | (apply ex_at r1; conv => whnf)
          | (apply reg_and; (· kernel_rfl); conv => whnf)
          | (apply ex_glen; conv => whnf)
          | (apply ex_eq; conv => whnf)
          | (apply nd_gl; (· omega); conv => whnf)
          | (apply And.intro; (· first | with_reducible rfl | exact trivial | exact Or.inl ⟨rfl, rfl⟩ | exact Or.inr rfl | decide | omega | (apply Nat.le_of_ble_eq_true; rfl) | (dsimp only; omega) | (simp only [ints_len, gl_len, mp_len, List.length_cons, List.length_nil, List.length_drop, List.length_take]; omega)); conv => whnf)
          | (apply br_yes; (· omega); conv => whnf)
          | fail
        refine WP.loopM [24, 25, 102, 103, 114, 115, 116, 21001, 21002] (fun y : NKW => [(102, .i .i64 y.1), (21001, rows3W y.2.1), (21002, rows3W y.2.2)]) (fun y => y.1 ≤ m' ∧ Shp3 L' m' D y.2.1 ∧ Shp3 L' m' D y.2.2) (fun y => m' - y.1) (0, K1, W1) ?_
        conv => whnf
        refine And.intro (And.intro ?_ ?_) (fun y hy => ?_)
        · exact ⟨Nat.zero_le _, hx2, hx3⟩
        · conv => whnf
          repeat' first
            | apply True.intro
            | (apply ptr_and; (· kernel_rfl); conv => whnf)
            | omega
            | (apply Or.inr; rfl)
            | (apply or_row; (· rfl); (· rfl); rfl)
            | (apply And.intro <;> conv => whnf)
            | fail
        conv => whnf
        obtain ⟨i, K2, W2⟩ := y
        obtain ⟨hy1, hy2, hy3⟩ := hy
        dsimp only at hy1 hy2 hy3 ⊢
        by_cases hi : i < m'
        · obtain ⟨u1, u2, u3⟩ := shp3_at hy2 hl
          obtain ⟨u4, u5⟩ := u3 i hi
          have n3 := hy2.1
          repeat' first
            | apply WP.seq
            | (apply WP.region (E := eStepKeeps) mixed tbl_ok; conv => whnf)
            | (apply WP.cond; conv => whnf)
            | (apply WP.skip; conv => whnf)
            | apply WP.block
            | (apply ex_at u1; conv => whnf)
            | (apply ex_at u4; conv => whnf)
            | (apply reg_and; (· kernel_rfl); conv => whnf)
            | (apply ex_ilen; conv => whnf)
            | (apply ex_eq; conv => whnf)
            | (apply nd_gl; (· omega); conv => whnf)
            | (apply And.intro; (· first | with_reducible rfl | exact trivial | exact Or.inl ⟨rfl, rfl⟩ | exact Or.inr rfl | decide | omega | (apply Nat.le_of_ble_eq_true; rfl) | (dsimp only; omega) | (simp only [ints_len, gl_len, mp_len, List.length_cons, List.length_nil, List.length_drop, List.length_take]; omega)); conv => whnf)
            | (apply br_yes; (· omega); conv => whnf)
            | fail
          refine WP.loopM [25, 115, 116, 21001, 21002] (fun z : NKW => [(115, .i .i64 z.1), (21001, rows3W z.2.1), (21002, rows3W z.2.2)]) (fun z => z.1 ≤ D ∧ Shp3 L' m' D z.2.1 ∧ Shp3 L' m' D z.2.2) (fun z => D - z.1) (0, K2, W2) ?_
          conv => whnf
          refine And.intro (And.intro ?_ ?_) (fun z hz => ?_)
          · exact ⟨Nat.zero_le _, hy2, hy3⟩
          · conv => whnf
            repeat' first
              | apply True.intro
              | (apply ptr_and; (· kernel_rfl); conv => whnf)
              | omega
              | (apply Or.inr; rfl)
              | (apply or_row; (· rfl); (· rfl); rfl)
              | (apply And.intro <;> conv => whnf)
              | fail
          conv => whnf
          obtain ⟨j, K3, W3⟩ := z
          obtain ⟨hz1, hz2, hz3⟩ := hz
          dsimp only at hz1 hz2 hz3 ⊢
          by_cases hj : j < D
          · obtain ⟨x1, x2, x3⟩ := shp3_at hz2 hl
            obtain ⟨x4, x5⟩ := x3 i hi
            obtain ⟨y1, y2, y3⟩ := shp3_at hz3 hl
            obtain ⟨y4, y5⟩ := y3 i hi
            have n4 := hz2.1
            have n5 := hz3.1
            repeat' first
              | apply WP.seq
              | (apply WP.region (E := eStepKeeps) mixed tbl_ok; conv => whnf)
              | (apply WP.cond; conv => whnf)
              | (apply WP.skip; conv => whnf)
              | apply WP.block
              | (apply ex_at x1; conv => whnf)
              | (apply ex_at x4; conv => whnf)
              | (apply ex_at y1; conv => whnf)
              | (apply ex_at y4; conv => whnf)
              | (apply reg_and; (· kernel_rfl); conv => whnf)
              | (apply ex_i64; (· omega); conv => whnf)
              | (apply ex_ints; (· omega); conv => whnf)
              | (apply ex_eq; conv => whnf)
              | (apply nd_ints; (· omega); conv => whnf)
              | (apply nd_gl; (· omega); conv => whnf)
              | (apply And.intro; (· first | with_reducible rfl | exact trivial | exact Or.inl ⟨rfl, rfl⟩ | exact Or.inr rfl | decide | omega | (apply Nat.le_of_ble_eq_true; rfl) | (dsimp only; omega) | (simp only [ints_len, gl_len, mp_len, List.length_cons, List.length_nil, List.length_drop, List.length_take]; omega)); conv => whnf)
              | (apply br_yes; (· omega); conv => whnf)
              | fail
            refine Exists.intro (j + 1, set3 K3 l i j (IntKind.i32.wrap (((K3.getD l []).getD i []).getD ((j : Nat) : Int).toNat 0 + 5)), set3 W3 l i j (IntKind.i32.wrap (((W3.getD l []).getD i []).getD ((j : Nat) : Int).toNat 0 + 7))) (And.intro (And.intro ⟨by show j + 1 ≤ D; omega, shp3_set hz2 hl hi, shp3_set hz3 hl hi⟩ (by show D - (j + 1) < D - j; omega)) ?_)
            conv => whnf
            repeat' first
              | apply True.intro
              | (apply ptr_and; (· kernel_rfl); conv => whnf)
              | omega
              | (apply Or.inr; rfl)
              | (apply or_row; (· rfl); (· rfl); rfl)
              | (apply And.intro <;> conv => whnf)
              | (apply or_row; (· rfl); (· rfl); exact set3_W)
              | fail
          · repeat' first
              | apply WP.seq
              | (apply WP.region (E := eStepKeeps) mixed tbl_ok; conv => whnf)
              | (apply WP.cond; conv => whnf)
              | (apply WP.exit; conv => whnf)
              | (apply reg_and; (· kernel_rfl); conv => whnf)
              | (apply ex_i64; (· omega); conv => whnf)
              | (apply ex_eq; conv => whnf)
              | (apply And.intro; (· first | with_reducible rfl | exact trivial | exact Or.inl ⟨rfl, rfl⟩ | exact Or.inr rfl | decide | omega | (apply Nat.le_of_ble_eq_true; rfl) | (dsimp only; omega) | (simp only [ints_len, gl_len, mp_len, List.length_cons, List.length_nil, List.length_drop, List.length_take]; omega)); conv => whnf)
              | (apply br_no; (· omega); conv => whnf)
              | fail
            refine Exists.intro (i + 1, K3, W3) (And.intro (And.intro ⟨by show i + 1 ≤ m'; omega, hz2, hz3⟩ (by show m' - (i + 1) < m' - i; omega)) ?_)
            conv => whnf
            repeat' first
              | apply True.intro
              | (apply ptr_and; (· kernel_rfl); conv => whnf)
              | omega
              | (apply Or.inr; rfl)
              | (apply or_row; (· rfl); (· rfl); rfl)
              | (apply And.intro <;> conv => whnf)
              | fail
        · repeat' first
            | apply WP.seq
            | (apply WP.region (E := eStepKeeps) mixed tbl_ok; conv => whnf)
            | (apply WP.cond; conv => whnf)
            | (apply WP.exit; conv => whnf)
            | (apply reg_and; (· kernel_rfl); conv => whnf)
            | (apply ex_i64; (· omega); conv => whnf)
            | (apply ex_eq; conv => whnf)
            | (apply And.intro; (· first | with_reducible rfl | exact trivial | exact Or.inl ⟨rfl, rfl⟩ | exact Or.inr rfl | decide | omega | (apply Nat.le_of_ble_eq_true; rfl) | (dsimp only; omega) | (simp only [ints_len, gl_len, mp_len, List.length_cons, List.length_nil, List.length_drop, List.length_take]; omega)); conv => whnf)
            | (apply br_no; (· omega); conv => whnf)
            | fail
          refine Exists.intro (l + 1, K2, W2) (And.intro (And.intro ⟨by show l + 1 ≤ L'; omega, hy2, hy3⟩ (by show L' - (l + 1) < L' - l; omega)) ?_)
          conv => whnf
          repeat' first
            | apply True.intro
            | (apply ptr_and; (· kernel_rfl); conv => whnf)
            | omega
            | (apply Or.inr; rfl)
            | (apply or_row; (· rfl); (· rfl); rfl)
            | (apply And.intro <;> conv => whnf)
            | fail
      · repeat' first
          | apply WP.seq
          | (apply WP.region (E := eStepKeeps) mixed tbl_ok; conv => whnf)
          | (apply WP.cond; conv => whnf)
          | (apply WP.ret; conv => whnf)
          | (apply WP.exit; conv => whnf)
          | (rw [fz_blks]; conv => whnf)
          | (rw [fz_rowsW]; conv => whnf)
          | (rw [fz_rows3]; conv => whnf)
          | (apply reg_and; (· kernel_rfl); conv => whnf)
          | (apply ex_and; (· with_reducible exact hFa); conv => whnf)
          | (apply ex_and; (· with_reducible exact hTa); conv => whnf)
          | (apply ex_and; (· with_reducible exact hSa); conv => whnf)
          | (apply ex_and; (· with_reducible exact hT); conv => whnf)
          | (apply ex_and; (· with_reducible exact hS); conv => whnf)
          | (apply ex_and; (· with_reducible exact awake9_ok); conv => whnf)
          | (apply ex_eq; conv => whnf)
          | ((with_reducible apply gd_t); conv => whnf)
          | ((with_reducible apply gd_f); conv => whnf)
          | (apply gd_br)
          | (apply And.intro; (· first | with_reducible rfl | exact trivial | exact Or.inl ⟨rfl, rfl⟩ | exact Or.inr rfl | decide | omega | (apply Nat.le_of_ble_eq_true; rfl) | (dsimp only; omega) | (simp only [ints_len, gl_len, mp_len, List.length_cons, List.length_nil, List.length_drop, List.length_take]; omega)); conv => whnf)
          | (apply br_yes; (· omega); conv => whnf)
          | (apply br_no; (· omega); conv => whnf)
          | (apply br_dec <;> intro hbr <;> (first | rw [decide_eq_true hbr] | rw [decide_eq_false hbr] | skip) <;> conv => whnf)
          | fail
        all_goals exact decide_eq_true (by omega)
    · by_cases hs0 : sc = 0
      · subst hs0
        clear hg
        refine impl_of (fn := Try.f8) tbl_ok (by kernel_rfl) (by kernel_rfl) rfl ⟨by simp [Try.f8], by decide⟩ rfl fun W0 => ?_
        repeat' first
          | apply WP.seq
          | (apply WP.region (E := eStepKeeps) mixed tbl_ok; conv => whnf)
          | (apply WP.cond; conv => whnf)
          | (apply WP.ret; conv => whnf)
          | (apply reg_and; (· kernel_rfl); conv => whnf)
          | (apply ex_and; (· with_reducible exact hF); conv => whnf)
          | (apply ex_and; (· with_reducible exact hM); conv => whnf)
          | (apply ex_and; (· with_reducible exact hsm); conv => whnf)
          | (apply ex_and; (· with_reducible exact awake9_ok); conv => whnf)
          | (apply ex_eq; conv => whnf)
          | (apply gd_br)
          | (apply And.intro; (· first | with_reducible rfl | exact trivial | exact Or.inl ⟨rfl, rfl⟩ | exact Or.inr rfl | decide | omega | (apply Nat.le_of_ble_eq_true; rfl) | (dsimp only; omega) | (simp only [ints_len, gl_len, mp_len, List.length_cons, List.length_nil, List.length_drop, List.length_take]; omega)); conv => whnf)
          | apply br_not
          | (apply br_t; conv => whnf)
          | fail
      · have hs1 : sc = 1 := by omega
        subst hs1
        have hp : prm c.vocab t1 ≠ 0 := fun e => hp ⟨rfl, e⟩
        have hA := fun {nt : Option Bool} => all_bad (nt := nt) (w := w) hp (by omega)
        clear hg
        generalize prm c.vocab t1 = k at *
        refine impl_of (fn := Try.f8) tbl_ok (by kernel_rfl) (by kernel_rfl) rfl ⟨by simp [Try.f8], by decide⟩ rfl fun W0 => ?_
        repeat' first
          | apply WP.seq
          | (apply WP.region (E := eStepKeeps) mixed tbl_ok; conv => whnf)
          | (apply WP.cond; conv => whnf)
          | (apply WP.skip; conv => whnf)
          | (apply WP.ret; conv => whnf)
          | (rw [fz_blks]; conv => whnf)
          | (rw [fz_nil]; conv => whnf)
          | (apply reg_and; (· kernel_rfl); conv => whnf)
          | (apply ex_and; (· with_reducible exact hF); conv => whnf)
          | (apply ex_and; (· with_reducible exact hM); conv => whnf)
          | (apply ex_and; (· with_reducible exact hsm); conv => whnf)
          | (apply ex_and; (· with_reducible exact hA); conv => whnf)
          | (apply ex_and; (· with_reducible exact awake9_ok); conv => whnf)
          | (apply ex_eq; conv => whnf)
          | (apply gd_br)
          | (apply And.intro; (· first | with_reducible rfl | exact trivial | exact Or.inl ⟨rfl, rfl⟩ | exact Or.inr rfl | decide | omega | (apply Nat.le_of_ble_eq_true; rfl) | (dsimp only; omega) | (simp only [ints_len, gl_len, mp_len, List.length_cons, List.length_nil, List.length_drop, List.length_take]; omega)); conv => whnf)
          | apply br_not
          | (apply br_t; conv => whnf)
          | (apply br_f; conv => whnf)
          | (apply br_no; (· omega); conv => whnf)
          | fail
  · have hM := make_err (c := c) (seed := seed) hsh
    generalize shp c = k at *
    refine impl_of (fn := Try.f8) tbl_ok (by kernel_rfl) (by kernel_rfl) rfl ⟨by simp [Try.f8], by decide⟩ rfl fun W0 => ?_
    repeat' first
      | apply WP.seq
      | (apply WP.region (E := eStepKeeps) mixed tbl_ok; conv => whnf)
      | (apply WP.cond; conv => whnf)
      | (apply WP.ret; conv => whnf)
      | (apply reg_and; (· kernel_rfl); conv => whnf)
      | (apply ex_and; (· with_reducible exact hF); conv => whnf)
      | (apply ex_and; (· with_reducible exact hM); conv => whnf)
      | (apply ex_and; (· with_reducible exact awake9_ok); conv => whnf)
      | (apply ex_eq; conv => whnf)
      | (apply gd_br)
      | (apply And.intro; (· first | with_reducible rfl | exact trivial | exact Or.inl ⟨rfl, rfl⟩ | exact Or.inr rfl | decide | omega | (apply Nat.le_of_ble_eq_true; rfl) | (dsimp only; omega) | (simp only [ints_len, gl_len, mp_len, List.length_cons, List.length_nil, List.length_drop, List.length_take]; omega)); conv => whnf)
      | apply br_not
      | (apply br_t; conv => whnf)
      | (apply br_no; (· omega); conv => whnf)
      | fail
end Go.Proofs.Ytcngjnhdemjomaa.T
namespace Go.Proofs.Ytcngjnhdemjomaa.T
set_option linter.unusedSimpArgs false
set_option linter.unusedVariables false
open Go
set_option linter.unusedVariables false
set_option maxHeartbeats 8000000
set_option maxRecDepth 100000
theorem full_any {c : Cfg} {V D n H L s : Nat} {w : Wts} {t : List Int} (hc : CfgG c V D n H L s) (hg : WtsG V D H L w) (ht : t.length ≤ 8) : ∃ (f : List Int) (K W : List (List (List Int))) (e : Int), (∀ {nt : Option Bool}, Impl Try.prog 17 [cfgA c, wtsA none none w, .sl none nt 1 false (ints .i64 t)] (.tup [rowA (some 0) f, .agg [rows3W K, rows3W W], .i .i64 e])) ∧ f.length ≤ 64 ∧ Sm3 K ∧ Sm3 W ∧ ∃ L' m', L' ≤ 4 ∧ m' ≤ 130 ∧ Shp3 L' m' D K ∧ Shp3 L' m' D W := by
  by_cases hp : prm c.vocab t = 0
  · obtain ⟨p1, p2, p3⟩ := prm_zero hp
    have e1 : sKeys D H s w t = vK D H s w t := by unfold vK; rw [if_neg (by omega)]
    have e2 : sVals D H s w t = vV D H s w t := by unfold vV; rw [if_neg (by omega)]
    have hv := vw_good (D := D) (H := H) (s := s) hg (fun x hx => by have := p3 x hx; have := hc.gv; omega) p2
    obtain ⟨b1, b2⟩ := vw_sm hv (by have := hc.gd; have := hc.gl; omega)
    obtain ⟨h1, h2, h3, h4, h5⟩ := hv
    refine ⟨sFull V D H s w t, vK D H s w t, vV D H s w t, 0, fun {nt} => ?_, by unfold sFull sLikes; rw [sApply_len]; have := hc.gv; omega, b1, b2, L, t.length, by have := hc.gl; omega, by omega, ⟨by omega, fun r hr => ⟨by have := (h4 r hr).1; omega, fun x hx => ((h4 r hr).2 x hx).1⟩⟩, ⟨by omega, fun r hr => ⟨by have := (h5 r hr).1; omega, fun x hx => ((h5 r hr).2 x hx).1⟩⟩⟩
    have := full_goodN (nt := nt) hc hg hp
    rwa [e1, e2] at this
  · exact ⟨[], [], [], prm c.vocab t, fun {nt} => full_prm (nt := nt) (by have := hg.layers; have := hc.gl; omega) (by omega) (chkW_of hc hg) hp, by decide, sm_nil, sm_nil, 0, 0, by omega, by omega, ⟨rfl, fun r hr => by cases hr⟩, ⟨rfl, fun r hr => by cases hr⟩⟩
abbrev NI : Type := Nat × List Int
def ePassKeeps : Env := ⟨tbl, [], [], [], [(0, [1, 2, 3, 4999, 4000, 4001, 4002, 4003, 4004]), (1, [1, 2, 3, 4999, 4000, 4001, 4002, 4003, 4004]), (2, [1, 2, 3, 7, 8, 4999, 4000, 4001, 4002, 4003, 4004, 8999, 8000, 8001, 8002, 8003, 8004, 8005, 8006, 8007]), (3, [1, 2, 3, 7, 39, 4999, 4000, 4001, 4002, 4003, 4004, 8999, 8000, 8001, 8002, 8003, 8004, 8005, 8006, 8007]), (4, [6]), (5, [1, 2, 3, 7, 9, 10, 11, 4999, 4000, 4001, 4002, 4003, 4004, 8999, 8000, 8001, 8002, 8003, 8004, 8005, 8006, 8007, 11999, 11000, 11001]), (6, [1, 2, 3, 7, 9, 10, 11, 50, 51, 4999, 4000, 4001, 4002, 4003, 4004, 8999, 8000, 8001, 8002, 8003, 8004, 8005, 8006, 8007, 11999, 11000, 11001]), (7, [1, 2, 3, 7, 9, 10, 11, 50, 51, 52, 4999, 4000, 4001, 4002, 4003, 4004, 8999, 8000, 8001, 8002, 8003, 8004, 8005, 8006, 8007, 11999, 11000, 11001]), (8, [1, 2, 3, 7, 9, 10, 11, 12, 50, 51, 4999, 4000, 4001, 4002, 4003, 4004, 8999, 8000, 8001, 8002, 8003, 8004, 8005, 8006, 8007, 11999, 11000, 11001]), (9, [1, 2, 3, 7, 9, 10, 11, 50, 51, 4999, 4000, 4001, 4002, 4003, 4004, 8999, 8000, 8001, 8002, 8003, 8004, 8005, 8006, 8007, 11999, 11000, 11001]), (10, [1, 2, 3, 7, 9, 10, 11, 50, 51, 4999, 4000, 4001, 4002, 4003, 4004, 8999, 8000, 8001, 8002, 8003, 8004, 8005, 8006, 8007, 11999, 11000, 11001]), (11, [1, 2, 3, 7, 9, 10, 11, 63, 64, 4999, 4000, 4001, 4002, 4003, 4004, 8999, 8000, 8001, 8002, 8003, 8004, 8005, 8006, 8007, 11999, 11000, 11001]), (12, [1, 2, 3, 7, 9, 10, 11, 63, 64, 65, 4999, 4000, 4001, 4002, 4003, 4004, 8999, 8000, 8001, 8002, 8003, 8004, 8005, 8006, 8007, 11999, 11000, 11001]), (13, [1, 2, 3, 7, 9, 10, 11, 13, 63, 64, 4999, 4000, 4001, 4002, 4003, 4004, 8999, 8000, 8001, 8002, 8003, 8004, 8005, 8006, 8007, 11999, 11000, 11001]), (14, [1, 2, 3, 7, 9, 10, 11, 13, 63, 64, 72, 73, 4999, 4000, 4001, 4002, 4003, 4004, 8999, 8000, 8001, 8002, 8003, 8004, 8005, 8006, 8007, 11999, 11000, 11001]), (15, [1, 2, 3, 7, 9, 10, 11, 13, 63, 64, 72, 73, 74, 4999, 4000, 4001, 4002, 4003, 4004, 8999, 8000, 8001, 8002, 8003, 8004, 8005, 8006, 8007, 11999, 11000, 11001]), (16, [1, 2, 3, 7, 9, 10, 11, 13, 14, 63, 64, 72, 73, 4999, 4000, 4001, 4002, 4003, 4004, 8999, 8000, 8001, 8002, 8003, 8004, 8005, 8006, 8007, 11999, 11000, 11001]), (17, [1, 2, 3, 7, 9, 10, 11, 13, 14, 63, 64, 72, 73, 84, 85, 4999, 4000, 4001, 4002, 4003, 4004, 8999, 8000, 8001, 8002, 8003, 8004, 8005, 8006, 8007, 11999, 11000, 11001]), (18, [1, 2, 3, 7, 9, 10, 11, 13, 14, 63, 64, 72, 73, 84, 85, 86, 4999, 4000, 4001, 4002, 4003, 4004, 8999, 8000, 8001, 8002, 8003, 8004, 8005, 8006, 8007, 11999, 11000, 11001]), (19, [1, 2, 3, 7, 9, 10, 11, 13, 14, 15, 63, 64, 72, 73, 84, 85, 4999, 4000, 4001, 4002, 4003, 4004, 8999, 8000, 8001, 8002, 8003, 8004, 8005, 8006, 8007, 11999, 11000, 11001]), (20, [1, 2, 3, 7, 9, 10, 11, 13, 14, 15, 63, 64, 72, 73, 84, 85, 4999, 4000, 4001, 4002, 4003, 4004, 8999, 8000, 8001, 8002, 8003, 8004, 8005, 8006, 8007, 11999, 11000, 11001]), (21, [1, 2, 3, 7, 9, 10, 11, 13, 14, 63, 64, 72, 73, 84, 85, 4999, 4000, 4001, 4002, 4003, 4004, 8999, 8000, 8001, 8002, 8003, 8004, 8005, 8006, 8007, 11999, 11000, 11001]), (22, [1, 2, 3, 7, 9, 10, 11, 13, 14, 63, 64, 72, 73, 84, 85, 4999, 4000, 4001, 4002, 4003, 4004, 8999, 8000, 8001, 8002, 8003, 8004, 8005, 8006, 8007, 11999, 11000, 11001]), (23, [1, 2, 3, 7, 9, 10, 11, 13, 63, 64, 72, 73, 4999, 4000, 4001, 4002, 4003, 4004, 8999, 8000, 8001, 8002, 8003, 8004, 8005, 8006, 8007, 11999, 11000, 11001]), (24, [1, 2, 3, 7, 9, 10, 11, 63, 64, 4999, 4000, 4001, 4002, 4003, 4004, 8999, 8000, 8001, 8002, 8003, 8004, 8005, 8006, 8007, 11999, 11000, 11001]), (25, [1, 2, 3, 9, 11, 16, 17, 18, 4999, 4000, 4001, 4002, 4003, 4004, 18999, 18000, 18001]), (26, [2, 3, 9, 11, 16, 17, 18, 19, 4999, 4000, 4001, 4002, 4003, 4004, 18999, 18000, 18001, 20999, 20000, 20001, 20002, 20003, 20004, 20005, 20006, 20007]), (27, [9, 11, 16, 17, 18, 21, 22, 23, 18999, 18000, 18001, 23999, 23000, 23001]), (28, [16, 17, 21, 22, 160, 18999, 18000, 18001, 23999, 23000, 23001]), (29, [6]), (30, [16, 17, 21, 22, 162, 163, 18999, 18000, 18001, 23999, 23000, 23001]), (31, [16, 17, 21, 22, 162, 163, 164, 18999, 18000, 18001, 23999, 23000, 23001]), (32, [16, 17, 21, 22, 24, 162, 163, 18999, 18000, 18001, 23999, 23000, 23001]), (33, [16, 17, 21, 22, 162, 163, 174, 18999, 18000, 18001, 23999, 23000, 23001]), (34, [6]), (35, [16, 17, 21, 22, 162, 163, 18999, 18000, 18001, 23999, 23000, 23001]), (36, [6])]⟩
theorem passkeeps_law (c : Cfg) (seed : Int) (t : List Int) (hseed : IntKind.u64.min ≤ seed ∧ seed ≤ IntKind.u64.max) (ht : IntsW t) : Impl Try.prog 5 [cfgA c, .i .u64 seed, .sl none none 1 false (ints .i64 t)] (.b true) := by
  have hF : ∀ {no : Option Bool}, Impl Try.prog 16 [.sl none no 1 false (ints .i64 t), .i .i64 8] (.sl (some 0) none 1 false (ints .i64 (t.take 8))) := fun {no} => few8_ok 8 ht.1 (by omega)
  have htl : (t.take 8).length ≤ 8 := by rw [List.length_take]; omega
  generalize t.take 8 = t1 at *
  obtain ⟨sc, hsm, h0⟩ : ∃ (sc : Int), Impl Try.prog 15 [cfgA c] (.i .i64 sc) ∧ (sc = 0 ∨ sc = 1) := by
    have := small_ok c
    by_cases h : small c
    · rw [if_pos h] at this; exact ⟨1, this, .inr rfl⟩
    · rw [if_neg h] at this; exact ⟨0, this, .inl rfl⟩
  by_cases hsh : shp c = 0
  · obtain ⟨V, D, nh, H, L, s, hc⟩ := shp_good hsh
    have hM := make_goodC hc hseed
    have hg : WtsG V D H L (sMake seed V D H L) := make_good (by have := hc.gv; omega) hc.gd.2 hc.gh.2
    generalize sMake seed V D H L = w at *
    by_cases hs0 : sc = 0
    · subst hs0
      clear hg
      refine impl_of (fn := Try.f5) tbl_ok (by kernel_rfl) (by kernel_rfl) rfl ⟨by simp [Try.f5], by decide⟩ rfl fun W0 => ?_
      repeat' first
        | apply WP.seq
        | (apply WP.region (E := ePassKeeps) mixed tbl_ok; conv => whnf)
        | (apply WP.cond; conv => whnf)
        | (apply WP.ret; conv => whnf)
        | (apply reg_and; (· kernel_rfl); conv => whnf)
        | (apply ex_and; (· with_reducible exact hF); conv => whnf)
        | (apply ex_and; (· with_reducible exact hM); conv => whnf)
        | (apply ex_and; (· with_reducible exact hsm); conv => whnf)
        | (apply ex_and; (· with_reducible exact awake8_ok); conv => whnf)
        | (apply ex_eq; conv => whnf)
        | (apply gd_br)
        | (apply And.intro; (· first | with_reducible rfl | exact trivial | exact Or.inl ⟨rfl, rfl⟩ | exact Or.inr rfl | decide | omega | (apply Nat.le_of_ble_eq_true; rfl) | (dsimp only; omega) | (simp only [ints_len, gl_len, mp_len, List.length_cons, List.length_nil, List.length_drop, List.length_take]; omega)); conv => whnf)
        | apply br_not
        | (apply br_t; conv => whnf)
        | fail
    · have hs1 : sc = 1 := by omega
      subst hs1
      obtain ⟨f, K, W, e, hU, f1, b1, b2, L', m', q1, q2, q3, q4⟩ := full_any hc hg htl
      have hlb := q3.1
      have hDl := hc.gd
      have hSK := fun {n1 n2 : Option Bool} => same8_ok (n1 := n1) (n2 := n2) (n3 := none) (n4 := none) (a := K) (b := K) (sm_siz12 b1).1 (sm_siz12 b1).2
      have hSW := fun {n1 n2 : Option Bool} => same8_ok (n1 := n1) (n2 := n2) (n3 := none) (n4 := none) (a := W) (b := W) (sm_siz12 b2).1 (sm_siz12 b2).2
      clear hg b1 b2
      refine impl_of (fn := Try.f5) tbl_ok (by kernel_rfl) (by kernel_rfl) rfl ⟨by simp [Try.f5], by decide⟩ rfl fun W0 => ?_
      repeat' first
        | apply WP.seq
        | (apply WP.region (E := ePassKeeps) mixed tbl_ok; conv => whnf)
        | (apply WP.cond; conv => whnf)
        | (apply WP.skip; conv => whnf)
        | apply WP.block
        | (rw [fz_blks]; conv => whnf)
        | (apply reg_and; (· kernel_rfl); conv => whnf)
        | (apply ex_and; (· with_reducible exact hF); conv => whnf)
        | (apply ex_and; (· with_reducible exact hM); conv => whnf)
        | (apply ex_and; (· with_reducible exact hsm); conv => whnf)
        | (apply ex_and; (· with_reducible exact hU); conv => whnf)
        | (apply ex_ilen; conv => whnf)
        | (apply ex_eq; conv => whnf)
        | (apply gd_br)
        | (apply And.intro; (· first | with_reducible rfl | exact trivial | exact Or.inl ⟨rfl, rfl⟩ | exact Or.inr rfl | decide | omega | (apply Nat.le_of_ble_eq_true; rfl) | (dsimp only; omega) | (simp only [ints_len, gl_len, mp_len, List.length_cons, List.length_nil, List.length_drop, List.length_take]; omega)); conv => whnf)
        | apply br_not
        | (apply br_t; conv => whnf)
        | (apply br_f; conv => whnf)
        | fail
      refine WP.loopM [9, 12, 51, 52] (fun x : NI => [(51, .i .i64 x.1), (9, rowA (some 0) x.2)]) (fun x => x.1 ≤ f.length ∧ x.2.length = f.length) (fun x => f.length - x.1) (0, f) ?_
      conv => whnf
      refine And.intro (And.intro ?_ ?_) (fun x hx => ?_)
      · exact ⟨Nat.zero_le _, rfl⟩
      · conv => whnf
        repeat' first
          | apply True.intro
          | (apply ptr_and; (· kernel_rfl); conv => whnf)
          | omega
          | (apply Or.inr; rfl)
          | (apply or_row; (· rfl); (· rfl); rfl)
          | (apply And.intro <;> conv => whnf)
          | fail
      conv => whnf
      obtain ⟨k, f2⟩ := x
      obtain ⟨hx1, hx2⟩ := hx
      dsimp only at hx1 hx2 ⊢
      by_cases hk : k < f.length
      · repeat' first
          | apply WP.seq
          | (apply WP.region (E := ePassKeeps) mixed tbl_ok; conv => whnf)
          | (apply WP.cond; conv => whnf)
          | (apply WP.skip; conv => whnf)
          | apply WP.block
          | (apply reg_and; (· kernel_rfl); conv => whnf)
          | (apply ex_i64; (· omega); conv => whnf)
          | (apply ex_ints; (· omega); conv => whnf)
          | (apply ex_eq; conv => whnf)
          | (apply nd_ints; (· omega); conv => whnf)
          | (apply And.intro; (· first | with_reducible rfl | exact trivial | exact Or.inl ⟨rfl, rfl⟩ | exact Or.inr rfl | decide | omega | (apply Nat.le_of_ble_eq_true; rfl) | (dsimp only; omega) | (simp only [ints_len, gl_len, mp_len, List.length_cons, List.length_nil, List.length_drop, List.length_take]; omega)); conv => whnf)
          | (apply br_yes; (· omega); conv => whnf)
          | fail
        refine Exists.intro (k + 1, f2.set k (IntKind.i32.wrap (f2.getD ((k : Nat) : Int).toNat 0 + 1))) (And.intro (And.intro ⟨by show k + 1 ≤ f.length; omega, by show (f2.set k _).length = _; rw [List.length_set]; exact hx2⟩ (by show f.length - (k + 1) < f.length - k; omega)) ?_)
        conv => whnf
        repeat' first
          | apply True.intro
          | (apply ptr_and; (· kernel_rfl); conv => whnf)
          | omega
          | (apply Or.inr; rfl)
          | (apply or_row; (· rfl); (· rfl); rfl)
          | (apply And.intro <;> conv => whnf)
          | (apply or_row; (· rfl); (· rfl); exact ints_set _ _ _ _)
          | fail
      repeat' first
        | apply WP.seq
        | (apply WP.region (E := ePassKeeps) mixed tbl_ok; conv => whnf)
        | (apply WP.cond; conv => whnf)
        | (apply WP.exit; conv => whnf)
        | apply WP.block
        | (apply reg_and; (· kernel_rfl); conv => whnf)
        | (apply ex_glen; conv => whnf)
        | (apply ex_eq; conv => whnf)
        | (apply And.intro; (· first | with_reducible rfl | exact trivial | exact Or.inl ⟨rfl, rfl⟩ | exact Or.inr rfl | decide | omega | (apply Nat.le_of_ble_eq_true; rfl) | (dsimp only; omega) | (simp only [ints_len, gl_len, mp_len, List.length_cons, List.length_nil, List.length_drop, List.length_take]; omega)); conv => whnf)
        | (apply br_no; (· omega); conv => whnf)
        | fail
      refine WP.loopM [13, 14, 15, 64, 65, 72, 73, 74, 84, 85, 86, 11000, 11001] (fun x : NKW => [(64, .i .i64 x.1), (11000, rows3W x.2.1), (11001, rows3W x.2.2)]) (fun x => x.1 ≤ L' ∧ Shp3 L' m' D x.2.1 ∧ Shp3 L' m' D x.2.2) (fun x => L' - x.1) (0, K, W) ?_
      conv => whnf
      refine And.intro (And.intro ?_ ?_) (fun x hx => ?_)
      · exact ⟨Nat.zero_le _, q3, q4⟩
      · conv => whnf
        repeat' first
          | apply True.intro
          | (apply ptr_and; (· kernel_rfl); conv => whnf)
          | omega
          | (apply Or.inr; rfl)
          | (apply or_row; (· rfl); (· rfl); rfl)
          | (apply And.intro <;> conv => whnf)
          | fail
      conv => whnf
      obtain ⟨l, K1, W1⟩ := x
      obtain ⟨hw1, hw2, hw3⟩ := hx
      dsimp only at hw1 hw2 hw3 ⊢
      by_cases hl : l < L'
      · obtain ⟨r1, r2, r3⟩ := shp3_at hw2 hl
        have n1 := hw2.1
        have n2 := hw3.1
        repeat' first
          | apply WP.seq
          | (apply WP.region (E := ePassKeeps) mixed tbl_ok; conv => whnf)
          | (apply WP.cond; conv => whnf)
          | (apply WP.skip; conv => whnf)
          | apply WP.block
          | (apply ex_at r1; conv => whnf)
          | (apply reg_and; (· kernel_rfl); conv => whnf)
          | (apply ex_glen; conv => whnf)
          | (apply ex_eq; conv => whnf)
          | (apply nd_gl; (· omega); conv => whnf)
          | (apply And.intro; (· first | with_reducible rfl | exact trivial | exact Or.inl ⟨rfl, rfl⟩ | exact Or.inr rfl | decide | omega | (apply Nat.le_of_ble_eq_true; rfl) | (dsimp only; omega) | (simp only [ints_len, gl_len, mp_len, List.length_cons, List.length_nil, List.length_drop, List.length_take]; omega)); conv => whnf)
          | (apply br_yes; (· omega); conv => whnf)
          | fail
        refine WP.loopM [14, 15, 73, 74, 84, 85, 86, 11000, 11001] (fun y : NKW => [(73, .i .i64 y.1), (11000, rows3W y.2.1), (11001, rows3W y.2.2)]) (fun y => y.1 ≤ m' ∧ Shp3 L' m' D y.2.1 ∧ Shp3 L' m' D y.2.2) (fun y => m' - y.1) (0, K1, W1) ?_
        conv => whnf
        refine And.intro (And.intro ?_ ?_) (fun y hy => ?_)
        · exact ⟨Nat.zero_le _, hw2, hw3⟩
        · conv => whnf
          repeat' first
            | apply True.intro
            | (apply ptr_and; (· kernel_rfl); conv => whnf)
            | omega
            | (apply Or.inr; rfl)
            | (apply or_row; (· rfl); (· rfl); rfl)
            | (apply And.intro <;> conv => whnf)
            | fail
        conv => whnf
        obtain ⟨i, K2, W2⟩ := y
        obtain ⟨hy1, hy2, hy3⟩ := hy
        dsimp only at hy1 hy2 hy3 ⊢
        by_cases hi : i < m'
        · obtain ⟨u1, u2, u3⟩ := shp3_at hy2 hl
          obtain ⟨u4, u5⟩ := u3 i hi
          have n3 := hy2.1
          repeat' first
            | apply WP.seq
            | (apply WP.region (E := ePassKeeps) mixed tbl_ok; conv => whnf)
            | (apply WP.cond; conv => whnf)
            | (apply WP.skip; conv => whnf)
            | apply WP.block
            | (apply ex_at u1; conv => whnf)
            | (apply ex_at u4; conv => whnf)
            | (apply reg_and; (· kernel_rfl); conv => whnf)
            | (apply ex_ilen; conv => whnf)
            | (apply ex_eq; conv => whnf)
            | (apply nd_gl; (· omega); conv => whnf)
            | (apply And.intro; (· first | with_reducible rfl | exact trivial | exact Or.inl ⟨rfl, rfl⟩ | exact Or.inr rfl | decide | omega | (apply Nat.le_of_ble_eq_true; rfl) | (dsimp only; omega) | (simp only [ints_len, gl_len, mp_len, List.length_cons, List.length_nil, List.length_drop, List.length_take]; omega)); conv => whnf)
            | (apply br_yes; (· omega); conv => whnf)
            | fail
          refine WP.loopM [15, 85, 86, 11000, 11001] (fun z : NKW => [(85, .i .i64 z.1), (11000, rows3W z.2.1), (11001, rows3W z.2.2)]) (fun z => z.1 ≤ D ∧ Shp3 L' m' D z.2.1 ∧ Shp3 L' m' D z.2.2) (fun z => D - z.1) (0, K2, W2) ?_
          conv => whnf
          refine And.intro (And.intro ?_ ?_) (fun z hz => ?_)
          · exact ⟨Nat.zero_le _, hy2, hy3⟩
          · conv => whnf
            repeat' first
              | apply True.intro
              | (apply ptr_and; (· kernel_rfl); conv => whnf)
              | omega
              | (apply Or.inr; rfl)
              | (apply or_row; (· rfl); (· rfl); rfl)
              | (apply And.intro <;> conv => whnf)
              | fail
          conv => whnf
          obtain ⟨j, K3, W3⟩ := z
          obtain ⟨hz1, hz2, hz3⟩ := hz
          dsimp only at hz1 hz2 hz3 ⊢
          by_cases hj : j < D
          · obtain ⟨x1, x2, x3⟩ := shp3_at hz2 hl
            obtain ⟨x4, x5⟩ := x3 i hi
            obtain ⟨y1, y2, y3⟩ := shp3_at hz3 hl
            obtain ⟨y4, y5⟩ := y3 i hi
            have n4 := hz2.1
            have n5 := hz3.1
            repeat' first
              | apply WP.seq
              | (apply WP.region (E := ePassKeeps) mixed tbl_ok; conv => whnf)
              | (apply WP.cond; conv => whnf)
              | (apply WP.skip; conv => whnf)
              | apply WP.block
              | (apply ex_at x1; conv => whnf)
              | (apply ex_at x4; conv => whnf)
              | (apply ex_at y1; conv => whnf)
              | (apply ex_at y4; conv => whnf)
              | (apply reg_and; (· kernel_rfl); conv => whnf)
              | (apply ex_i64; (· omega); conv => whnf)
              | (apply ex_ints; (· omega); conv => whnf)
              | (apply ex_eq; conv => whnf)
              | (apply nd_ints; (· omega); conv => whnf)
              | (apply nd_gl; (· omega); conv => whnf)
              | (apply And.intro; (· first | with_reducible rfl | exact trivial | exact Or.inl ⟨rfl, rfl⟩ | exact Or.inr rfl | decide | omega | (apply Nat.le_of_ble_eq_true; rfl) | (dsimp only; omega) | (simp only [ints_len, gl_len, mp_len, List.length_cons, List.length_nil, List.length_drop, List.length_take]; omega)); conv => whnf)
              | (apply br_yes; (· omega); conv => whnf)
              | fail
            refine Exists.intro (j + 1, set3 K3 l i j (IntKind.i32.wrap (((K3.getD l []).getD i []).getD ((j : Nat) : Int).toNat 0 + 1)), set3 W3 l i j (IntKind.i32.wrap (((W3.getD l []).getD i []).getD ((j : Nat) : Int).toNat 0 + 1))) (And.intro (And.intro ⟨by show j + 1 ≤ D; omega, shp3_set hz2 hl hi, shp3_set hz3 hl hi⟩ (by show D - (j + 1) < D - j; omega)) ?_)
            conv => whnf
            repeat' first
              | apply True.intro
              | (apply ptr_and; (· kernel_rfl); conv => whnf)
              | omega
              | (apply Or.inr; rfl)
              | (apply or_row; (· rfl); (· rfl); rfl)
              | (apply And.intro <;> conv => whnf)
              | (apply or_row; (· rfl); (· rfl); exact set3_W)
              | fail
          · repeat' first
              | apply WP.seq
              | (apply WP.region (E := ePassKeeps) mixed tbl_ok; conv => whnf)
              | (apply WP.cond; conv => whnf)
              | (apply WP.exit; conv => whnf)
              | (apply reg_and; (· kernel_rfl); conv => whnf)
              | (apply ex_i64; (· omega); conv => whnf)
              | (apply ex_eq; conv => whnf)
              | (apply And.intro; (· first | with_reducible rfl | exact trivial | exact Or.inl ⟨rfl, rfl⟩ | exact Or.inr rfl | decide | omega | (apply Nat.le_of_ble_eq_true; rfl) | (dsimp only; omega) | (simp only [ints_len, gl_len, mp_len, List.length_cons, List.length_nil, List.length_drop, List.length_take]; omega)); conv => whnf)
              | (apply br_no; (· omega); conv => whnf)
              | fail
            refine Exists.intro (i + 1, K3, W3) (And.intro (And.intro ⟨by show i + 1 ≤ m'; omega, hz2, hz3⟩ (by show m' - (i + 1) < m' - i; omega)) ?_)
            conv => whnf
            repeat' first
              | apply True.intro
              | (apply ptr_and; (· kernel_rfl); conv => whnf)
              | omega
              | (apply Or.inr; rfl)
              | (apply or_row; (· rfl); (· rfl); rfl)
              | (apply And.intro <;> conv => whnf)
              | fail
        · repeat' first
            | apply WP.seq
            | (apply WP.region (E := ePassKeeps) mixed tbl_ok; conv => whnf)
            | (apply WP.cond; conv => whnf)
            | (apply WP.exit; conv => whnf)
            | (apply reg_and; (· kernel_rfl); conv => whnf)
            | (apply ex_i64; (· omega); conv => whnf)
            | (apply ex_eq; conv => whnf)
            | (apply And.intro; (· first | with_reducible rfl | exact trivial | exact Or.inl ⟨rfl, rfl⟩ | exact Or.inr rfl | decide | omega | (apply Nat.le_of_ble_eq_true; rfl) | (dsimp only; omega) | (simp only [ints_len, gl_len, mp_len, List.length_cons, List.length_nil, List.length_drop, List.length_take]; omega)); conv => whnf)
            | (apply br_no; (· omega); conv => whnf)
            | fail
          refine Exists.intro (l + 1, K2, W2) (And.intro (And.intro ⟨by show l + 1 ≤ L'; omega, hy2, hy3⟩ (by show L' - (l + 1) < L' - l; omega)) ?_)
          conv => whnf
          repeat' first
            | apply True.intro
            | (apply ptr_and; (· kernel_rfl); conv => whnf)
            | omega
            | (apply Or.inr; rfl)
            | (apply or_row; (· rfl); (· rfl); rfl)
            | (apply And.intro <;> conv => whnf)
            | fail
      repeat' first
        | apply WP.seq
        | (apply WP.region (E := ePassKeeps) mixed tbl_ok; conv => whnf)
        | (apply WP.cond; conv => whnf)
        | (apply WP.skip; conv => whnf)
        | (apply WP.exit; conv => whnf)
        | apply WP.block
        | (rw [fz_blks]; conv => whnf)
        | (apply reg_and; (· kernel_rfl); conv => whnf)
        | (apply ex_and; (· with_reducible exact hM); conv => whnf)
        | (apply ex_and; (· with_reducible exact hU); conv => whnf)
        | (apply ex_ilen; conv => whnf)
        | (apply ex_eq; conv => whnf)
        | (apply gd_br)
        | (apply And.intro; (· first | with_reducible rfl | exact trivial | exact Or.inl ⟨rfl, rfl⟩ | exact Or.inr rfl | decide | omega | (apply Nat.le_of_ble_eq_true; rfl) | (dsimp only; omega) | (simp only [ints_len, gl_len, mp_len, List.length_cons, List.length_nil, List.length_drop, List.length_take]; omega)); conv => whnf)
        | apply br_not
        | (apply br_yes; (· omega); conv => whnf)
        | (apply br_no; (· omega); conv => whnf)
        | fail
      refine WP.loopM [24, 163, 164, 174] (fun p : Nat => [(163, .i .i64 p)]) (fun p => p ≤ f.length) (fun p => f.length - p) 0 ?_
      conv => whnf
      refine And.intro (And.intro ?_ ?_) (fun p hp => ?_)
      · first | omega | trivial | skip
      · conv => whnf
        repeat' first
          | apply True.intro
          | (apply ptr_and; (· kernel_rfl); conv => whnf)
          | omega
          | (apply Or.inr; rfl)
          | (apply or_row; (· rfl); (· rfl); rfl)
          | (apply And.intro <;> conv => whnf)
          | fail
      conv => whnf
      repeat' first
        | apply WP.seq
        | (apply WP.region (E := ePassKeeps) mixed tbl_ok; conv => whnf)
        | (apply WP.cond; conv => whnf)
        | (apply WP.skip; conv => whnf)
        | (apply WP.ret; conv => whnf)
        | (apply WP.exit; conv => whnf)
        | apply WP.block
        | (rw [fz_rowsW]; conv => whnf)
        | (rw [decide_eq_true (rfl : K = K)]; conv => whnf)
        | (rw [decide_eq_true (rfl : W = W)]; conv => whnf)
        | (apply reg_and; (· kernel_rfl); conv => whnf)
        | (apply ex_and; (· with_reducible exact hSK); conv => whnf)
        | (apply ex_and; (· with_reducible exact hSW); conv => whnf)
        | (apply ex_and; (· with_reducible exact awake8_ok); conv => whnf)
        | (apply ex_i64; (· omega); conv => whnf)
        | (apply ex_ints; (· omega); conv => whnf)
        | (apply ex_eq; conv => whnf)
        | ((with_reducible apply gd_t); conv => whnf)
        | (apply nd_ints; (· omega); conv => whnf)
        | (apply And.intro; (· first | with_reducible rfl | exact trivial | exact Or.inl ⟨rfl, rfl⟩ | exact Or.inr rfl | decide | omega | (apply Nat.le_of_ble_eq_true; rfl) | (dsimp only; omega) | (simp only [ints_len, gl_len, mp_len, List.length_cons, List.length_nil, List.length_drop, List.length_take]; omega)); conv => whnf)
        | apply br_not
        | (apply br_yes; (· omega); conv => whnf)
        | (apply br_dec <;> intro hbr <;> (first | rw [decide_eq_true hbr] | rw [decide_eq_false hbr] | skip) <;> conv => whnf)
        | fail
      refine Exists.intro (p + 1) (And.intro (And.intro ?_ ?_) ?_)
      · first | omega | skip
      · first | omega | skip
      conv => whnf
      repeat' first
        | apply True.intro
        | (apply ptr_and; (· kernel_rfl); conv => whnf)
        | omega
        | (apply Or.inr; rfl)
        | (apply or_row; (· rfl); (· rfl); rfl)
        | (apply And.intro <;> conv => whnf)
        | fail
  · have hM := make_err (c := c) (seed := seed) hsh
    generalize shp c = k at *
    refine impl_of (fn := Try.f5) tbl_ok (by kernel_rfl) (by kernel_rfl) rfl ⟨by simp [Try.f5], by decide⟩ rfl fun W0 => ?_
    repeat' first
      | apply WP.seq
      | (apply WP.region (E := ePassKeeps) mixed tbl_ok; conv => whnf)
      | (apply WP.cond; conv => whnf)
      | (apply WP.ret; conv => whnf)
      | (apply reg_and; (· kernel_rfl); conv => whnf)
      | (apply ex_and; (· with_reducible exact hF); conv => whnf)
      | (apply ex_and; (· with_reducible exact hM); conv => whnf)
      | (apply ex_and; (· with_reducible exact awake8_ok); conv => whnf)
      | (apply ex_eq; conv => whnf)
      | (apply gd_br)
      | (apply And.intro; (· first | with_reducible rfl | exact trivial | exact Or.inl ⟨rfl, rfl⟩ | exact Or.inr rfl | decide | omega | (apply Nat.le_of_ble_eq_true; rfl) | (dsimp only; omega) | (simp only [ints_len, gl_len, mp_len, List.length_cons, List.length_nil, List.length_drop, List.length_take]; omega)); conv => whnf)
      | apply br_not
      | (apply br_t; conv => whnf)
      | (apply br_no; (· omega); conv => whnf)
      | fail
end Go.Proofs.Ytcngjnhdemjomaa.T
