/- What functions of the program come to, on trees. No condition but those that the theorems name. -/
import Derived.OwnWalk
import Derived.Tactics2
import Derived.Lib.AppendZeros
import Derived.Test.YtjihjjbieeofdaaPK9
namespace Go.Proofs.Ytjihjjbieeofdaa.T
set_option linter.unusedSimpArgs false
set_option linter.unusedVariables false
open Go
set_option linter.unusedVariables false
set_option maxHeartbeats 8000000
set_option maxRecDepth 100000
/-- So many lists of so many rows of so many numbers at most. -/
def Sm3 (K : List (List (List Int))) : Prop := K.length ≤ 5 ∧ ∀ r ∈ K, r.length ≤ 130 ∧ ∀ x ∈ r, x.length ≤ 40
theorem cutR_small {r : List (List Int)} (h : r.length ≤ 130 ∧ ∀ x ∈ r, x.length ≤ 40) : cutR 130 r = r := by
  unfold cutR
  rw [List.take_of_length_le h.1]
  refine (List.map_congr_left fun x hx => ?_).trans (List.map_id r)
  exact List.take_of_length_le (h.2 x hx)
theorem cutL_small {K : List (List (List Int))} (h : Sm3 K) : cutL K = K := by
  unfold cutL
  rw [List.take_of_length_le h.1]
  refine (List.map_congr_left fun x hx => ?_).trans (List.map_id K)
  exact cutR_small (h.2 x hx)
theorem sm_sizM {K : List (List (List Int))} (h : Sm3 K) : SizM K := ⟨by have := h.1; omega, fun r hr => ⟨by have := (h.2 r hr).1; omega, fun x hx => by have := (h.2 r hr).2 x hx; omega⟩⟩
theorem sm_siz12 {K : List (List (List Int))} (h : Sm3 K) : K.length ≤ 1000000000000 ∧ ∀ x ∈ K, x.length ≤ 1000000000000 ∧ ∀ y ∈ x, y.length ≤ 1000000000000 := ⟨by have := h.1; omega, fun r hr => ⟨by have := (h.2 r hr).1; omega, fun x hx => by have := (h.2 r hr).2 x hx; omega⟩⟩
/-- What is told of a small view is the view. -/
theorem told9_small {n1 n2 n3 : Option Bool} {t : List Int} {K W : List (List (List Int))} (ht : t.length ≤ 130) (hK : Sm3 K) (hW : Sm3 W) : Impl Try.prog 19 [.agg [.sl none n1 1 false (ints .i64 t), .sl none n2 1 true (gl (rowsA none) K), .sl none n3 1 true (gl (rowsA none) W)]] (viewA (some 0) t K W) := by
  have := told9_ok (n1 := n1) (n2 := n2) (n3 := n3) (t := t) (by omega) (sm_sizM hK) (sm_sizM hW)
  rwa [cutL_small hK, cutL_small hW, List.take_of_length_le ht] at this
end Go.Proofs.Ytjihjjbieeofdaa.T
namespace Go.Proofs.Ytjihjjbieeofdaa.T
set_option linter.unusedSimpArgs false
set_option linter.unusedVariables false
open Go
set_option linter.unusedVariables false
set_option maxHeartbeats 8000000
set_option maxRecDepth 100000
abbrev bkL (b : Bk) : List AV := [.sl none none 1 false (ints .i64 b.t), .i .i64 b.f, .sl none none 1 true (gl (rowsA none) b.k), .sl none none 1 true (gl (rowsA none) b.v)]
theorem rdBk : Rd Try.prog 34 bkL BkW :=
  rd_mapR (rd_struct Try.underlying34 (by kernel_rfl) (sg_cons (n := 1) rfl (by kernel_rfl) rdInts (sg_cons (n := 1) rfl (by kernel_rfl) rdInt (sg_one (n := 2) rfl (by kernel_rfl) rdCache)))) (fun x => (⟨x.1, x.2.1, x.2.2.1, x.2.2.2⟩ : Bk)) (fun _ => rfl) (fun _ h => ⟨h.1, h.2.1, h.2.2.1, h.2.2.2⟩)
def BksW (l : List Bk) : Prop := l.length ≤ 140737488351232 ∧ ∀ b ∈ l, BkW b
theorem rdBks : Rd Try.prog 24 (fun l : List Bk => [.sl none none 4 true (gl blkF l)]) BksW :=
  rd_map (fun l => l) (fun l => rfl) (fun l h => ⟨by omega, fun x hx => h.2 x hx⟩) (rd_slice (el := blkF) (B := 80) (sz := 4) (dp := true) Try.underlying24 (by kernel_rfl) (by decide) (by kernel_rfl) rdBk (fun a => .inl rfl) (fun h => by cases h))
theorem of11_small {b : Bk} (h : BkC b) {n1 n2 n3 : Option Bool} : Impl Try.prog 12 [bkA b.t b.f b.k b.v n1 n2 n3] (bkO (some 0) b.t b.f b.k b.v) := by
  have := of11_ok (n1 := n1) (n2 := n2) (n3 := n3) b.f (t := b.t) (by have := h.t; omega) (sm20_sizM h.k) (sm20_sizM h.v)
  rwa [cutL20_small h.k, cutL20_small h.v, List.take_of_length_le h.t] at this
theorem gl_snoc {α : Type} {g : α → AV} {l : List α} {i : Nat} (d : α) (h : i < l.length) : gl g (l.take i) ++ [g (l.getD i d)] = gl g (l.take (i + 1)) := by
  unfold gl
  rw [List.take_add_one, List.map_append, List.getElem?_eq_getElem h, List.getD_eq_getElem?_getD, List.getElem?_eq_getElem h]
  rfl
theorem jsm_k {t : List Int} {K V : LL} (h : JSm t K V) : Sm3 K := ⟨h.kl, fun r hr => ⟨by have := (h.k r hr).1; have := h.tl; omega, (h.k r hr).2⟩⟩
theorem jsm_v {t : List Int} {K V : LL} (h : JSm t K V) : Sm3 V := ⟨h.vl, fun r hr => ⟨by have := (h.v r hr).1; have := h.tl; omega, (h.v r hr).2⟩⟩
theorem fz_blkF (l : List Bk) : AV.fzL (gl blkF l) = gl blkF l := by
  rw [AV.fzL_map]; unfold gl; rw [List.map_map]
  refine List.map_congr_left fun r _ => ?_
  show AV.agg [_, _, .sl none none 1 true (AV.fzL (gl (rowsA none) r.k)), .sl none none 1 true (AV.fzL (gl (rowsA none) r.v))] = _
  rw [fz_rows3, fz_rows3]; rfl
def eBlockJoins : Env := ⟨tbl, [14], [26], [], [(0, [1, 2, 3999, 3000, 3001, 3002, 3003, 3004]), (1, [2, 5, 3999, 3000, 3001, 3002, 3003, 3004]), (2, [2, 5, 6, 3999, 3000, 3001, 3002, 3003, 3004]), (3, [2, 5, 6, 16, 17, 18, 3999, 3000, 3001, 3002, 3003, 3004]), (4, [2, 5, 6, 16, 17, 18, 19, 3999, 3000, 3001, 3002, 3003, 3004]), (5, [2, 5, 6, 8, 16, 17, 18, 3999, 3000, 3001, 3002, 3003, 3004, 9999, 9000, 9001, 9002, 9003]), (6, [2, 5, 6, 8, 16, 17, 18, 3999, 3000, 3001, 3002, 3003, 3004, 9999, 9000, 9001, 9002, 9003]), (7, [2, 5, 6, 16, 17, 18, 34, 3999, 3000, 3001, 3002, 3003, 3004]), (8, [4]), (9, [2, 5, 6, 16, 17, 18, 3999, 3000, 3001, 3002, 3003, 3004]), (10, [2, 5, 9, 10, 3999, 3000, 3001, 3002, 3003, 3004, 10999, 10000, 10001, 10002]), (11, [9, 10, 11, 12, 10999, 10000, 10001, 10002, 12999, 12000, 12001, 12002]), (12, [4])]⟩
theorem blockjoins_of (hawake : Impl Try.prog 17 [] (.b true)) (c : Cfg) (l : List Bk) (hl : BksW l) : Impl Try.prog 3 [.agg (cfgL c), .sl none none 4 true (gl blkF l)] (.b true) := by
  have hR := fun {nl : Option Bool} => row11_ok (nl := nl) (l := l) hl.1 hl.2
  have hb : ∀ b ∈ (l.take 10).map cutP, BkC b := fun b hb => by
    obtain ⟨b0, h0, rfl⟩ := List.mem_map.1 hb
    exact cutP_c (hl.2 _ (List.mem_of_mem_take h0))
  have h10 : ((l.take 10).map cutP).length ≤ 10 := by rw [List.length_map, List.length_take]; omega
  generalize (l.take 10).map cutP = l1 at *
  obtain ⟨⟨t, K, V, e⟩, hr⟩ : ∃ r, r = jn c l1 [] [] [] := ⟨_, rfl⟩
  have hsm : JSm t K V := by
    have := jn_sm (c := c) l1 [] [] [] hb jsm_nil (.inl ⟨rfl, rfl, rfl⟩)
    rwa [← hr] at this
  have hJ := fun {nl : Option Bool} => join_ok (nl := nl) (c := c) (l := l1) (by omega) (fun b h => bkC_s (hb b h)) _ hr
  obtain ⟨o, ho⟩ : ∃ o : Option Nat, o = if e = 0 ∧ 0 < l1.length then none else some 0 := ⟨_, rfl⟩
  have hQ := fun {nl : Option Bool} => rjoin_ok (nl := nl) (c := c) (l := l1) (by omega) (fun b h => bkC_s (hb b h)) _ hr o ho
  have hT := fun {n1 n2 n3 : Option Bool} => told9_small (n1 := n1) (n2 := n2) (n3 := n3) (t := t) (K := K) (W := V) (by have := hsm.tl; omega) (jsm_k hsm) (jsm_v hsm)
  have hS := fun {m1 m2 m3 n1 n2 n3 : Option Bool} => same9_okF (m1 := m1) (m2 := m2) (m3 := m3) (n1 := n1) (n2 := n2) (n3 := n3) (t := t) (K := K) (W := V) (by have := hsm.tl; omega) (sm_siz12 (jsm_k hsm)) (sm_siz12 (jsm_v hsm))
  dsimp only at hJ hQ
  clear hr hsm hl
  refine impl_of (fn := Try.f3) tbl_ok (by kernel_rfl) (by kernel_rfl) rfl ⟨by simp [Try.f3], by decide⟩ rfl fun W0 => ?_
  repeat' first
    | (rw [fz_blkF]; conv => whnf)
    | apply WP.seq
    | (apply WP.region (E := eBlockJoins) mixed tbl_ok; conv => whnf)
    | apply WP.block
    | (apply reg_and; (· kernel_rfl); conv => whnf)
    | (apply ex_and; (· with_reducible exact hR); conv => whnf)
    | (apply ex_glen; conv => whnf)
    | fail
  refine WP.loopM [8, 18, 19, 34, 6, 9999, 9000, 9001, 9002, 9003] (fun i : Nat => [(18, .i .i64 i), (6, .sl (some 0) none 4 true (gl blkF (l1.take i)))]) (fun i => i ≤ l1.length) (fun i => l1.length - i) 0 ?_
  conv => whnf
  refine And.intro (And.intro ?_ ?_) (fun i hi => ?_)
  · first | omega | trivial | skip
  · conv => whnf
    repeat' first
      | apply True.intro
      | (apply ptr_and; (· kernel_rfl); conv => whnf)
      | omega
      | (apply Or.inr; rfl)
      | (apply Or.inl; rfl)
      | (apply or_row; (· rfl); (· rfl); rfl)
      | (apply And.intro <;> conv => whnf)
      | fail
  conv => whnf
  by_cases hil : i < l1.length
  · have ha := gl_at (f := blkF) (l := l1) (i := i) bkN hil
    have hc := hb _ (getD_in (l := l1) (i := i) bkN hil)
    have hsn := gl_snoc (g := blkF) (l := l1) (i := i) bkN hil
    have hml : (l1.take i).length = i := by rw [List.length_take]; omega
    obtain ⟨x, hx⟩ : ∃ x, x = l1.getD i bkN := ⟨_, rfl⟩
    rw [← hx] at ha hc hsn
    have hO := fun {n1 n2 n3 : Option Bool} => of11_small hc (n1 := n1) (n2 := n2) (n3 := n3)
    have hs := bkC_s hc
    have hC := fun {n1 n2 n3 : Option Bool} => bcheck_ok (n1 := n1) (n2 := n2) (n3 := n3) c hs.t hs.f hs.k hs.v
    have hD := fun {n1 n2 n3 : Option Bool} => rcheck11_ok (n1 := n1) (n2 := n2) (n3 := n3) c hs.t hs.f hs.k hs.v
    generalize chkB c x.t x.f x.k x.v = q at *
    generalize l1.take i = l2 at *
    clear hJ hQ ho hT hS hb hR
    repeat' first
      | (rw [fz_rows3]; conv => whnf)
      | apply WP.seq
      | (apply WP.region (E := eBlockJoins) mixed tbl_ok; conv => whnf)
      | (apply WP.cond; conv => whnf)
      | (apply WP.skip; conv => whnf)
      | apply WP.block
      | (apply ex_at ha; conv => whnf)
      | (apply reg_and; (· kernel_rfl); conv => whnf)
      | (apply ex_and; (· with_reducible exact hO); conv => whnf)
      | (apply ex_and; (· with_reducible exact hC); conv => whnf)
      | (apply ex_and; (· with_reducible exact hD); conv => whnf)
      | (apply ex_i64; (· omega); conv => whnf)
      | (apply ex_eq; conv => whnf)
      | (apply nd_gl; (· omega); conv => whnf)
      | (apply And.intro; (· first | with_reducible rfl | exact trivial | exact Or.inl ⟨rfl, rfl⟩ | exact Or.inr rfl | decide | omega | (apply Nat.le_of_ble_eq_true; rfl) | (dsimp only; omega) | (simp only [ints_len, gl_len, mp_len, List.length_cons, List.length_nil, List.length_drop, List.length_take]; omega)); conv => whnf)
      | apply br_not
      | (apply br_yes; (· omega); conv => whnf)
      | fail
    refine Exists.intro (i + 1) (And.intro (And.intro (by omega) (by omega)) ?_)
    conv => whnf
    repeat' first
      | apply True.intro
      | (apply ptr_and; (· kernel_rfl); conv => whnf)
      | omega
      | (apply Or.inr; rfl)
      | (apply Or.inl; rfl)
      | (apply or_row; (· rfl); (· rfl); rfl)
      | (apply And.intro <;> conv => whnf)
      | (apply or_row; (· rfl); (· rfl); exact hsn)
      | fail
  · have e2 : i = l1.length := by omega
    subst e2
    rw [List.take_length]
    have hoc : o = none ∨ o = some 0 := by rw [ho]; split <;> simp
    clear ho
    rcases hoc with rfl | rfl
    all_goals
      repeat' first
        | (rw [fz_rows3]; conv => whnf)
        | (rw [fz_rowsN]; conv => whnf)
        | (rw [fz_rowsO]; conv => whnf)
        | (rw [fz_blkF]; conv => whnf)
        | apply WP.seq
        | (apply WP.region (E := eBlockJoins) mixed tbl_ok; conv => whnf)
        | (apply WP.cond; conv => whnf)
        | (apply WP.ret; conv => whnf)
        | (apply WP.exit; conv => whnf)
        | (apply reg_and; (· kernel_rfl); conv => whnf)
        | (apply ex_and; (· with_reducible exact hJ); conv => whnf)
        | (apply ex_and; (· with_reducible exact hQ); conv => whnf)
        | (apply ex_and; (· with_reducible exact hawake); conv => whnf)
        | (apply ex_and; (· with_reducible exact hT); conv => whnf)
        | (apply ex_and; (· with_reducible exact hS); conv => whnf)
        | (apply ex_eq; conv => whnf)
        | ((with_reducible apply gd_t); conv => whnf)
        | (apply gd_br)
        | (apply And.intro; (· first | with_reducible rfl | exact trivial | exact Or.inl ⟨rfl, rfl⟩ | exact Or.inr rfl | decide | omega | (apply Nat.le_of_ble_eq_true; rfl) | (dsimp only; omega) | (simp only [ints_len, gl_len, mp_len, List.length_cons, List.length_nil, List.length_drop, List.length_take]; omega)); conv => whnf)
        | (apply br_yes; (· omega); conv => whnf)
        | (apply br_no; (· omega); conv => whnf)
        | fail
    all_goals
      skip
end Go.Proofs.Ytjihjjbieeofdaa.T
namespace Go.Proofs.Ytjihjjbieeofdaa.T
set_option linter.unusedSimpArgs false
set_option linter.unusedVariables false
open Go Go.RowKit
set_option linter.unusedVariables false
set_option linter.unusedSimpArgs false
theorem cut_to0 {P : Program} (t e : TypeId) {i : TypeInfo} (ht : P.underlying t = some (.slice e)) (hi : P.info? e = some i) (A : Option Addr) (n c : Nat) :
    ∀ W : World, (Instr.slice t (.slice A n c) none (some (.int .i64 0)) none).run P W = .ok (.slice A 0 c) W := by
  intro W
  have hel : P.elem t = e := by simp [Program.elem, ht]
  have hu : P.underlying t = some (.slice (P.elem t)) := by rw [hel]; exact ht
  have ha : (A.map fun x => x.add 0) = A := by cases A <;> simp [Addr.add]
  rw [run_slice_h W t A n c hu .i64 0 (by omega) (by omega), hel]
  simp [sizeOf, typeInfo, hi, sliced, Result.andThen, ha]
theorem nil_rw {w : World} {F : Nat → Prop} {sz : Nat} {dp : Bool} {v : Value} (h : RW w F (.sl none (some true) sz dp []) v []) : v = .slice none 0 0 := by
  have h1 : Rp w F (.sl none (some true) sz dp []) [v] [] := h
  cases h1 with
  | fz hc hm hn h0 hA hl hr hd hw =>
    have := (hn true rfl).1 rfl
    subst this
    rw [(h0 rfl).2]; rfl
theorem int_rw {w : World} {F : Nat → Prop} {k : IntKind} {n : Int} {v : Value} (h : RW w F (.i k n) v []) : v = .int k n := by
  have h1 : Rp w F (.i k n) [v] [] := h
  cases h1; rfl
set_option maxHeartbeats 8000000 in
set_option maxRecDepth 100000 in
theorem grow1_ok {sz : Nat} {dp : Bool} {n : Nat} (hn : n ≤ 1000000) : Impl Try.prog 94 [.sl none (some true) sz dp [], .i .i64 n] (.sl (some 0) none 1 false []) := by
  refine headOk_impl rfl ⟨⟨Try.f94, Try.func94, by kernel_rfl, rfl⟩, fun F w vs hs hv hF => ?_⟩
  obtain ⟨v0, v1, rfl⟩ : ∃ v0 v1, vs = #[v0, v1] := ⟨vs[0]'(by rw [hs]; show 0 < 2; omega), vs[1]'(by rw [hs]; show 1 < 2; omega), by
    apply Array.ext
    · exact hs
    · intro i h1 h2
      match i with
      | 0 => rfl
      | 1 => rfl⟩
  have e0 := nil_rw (hv 0 _ v0 rfl rfl)
  have e1 := int_rw (hv 1 _ v1 rfl rfl)
  subst e0 e1
  clear hv hs
  have w1 : wrap64 (n : Int) = n := by unfold wrap64; omega
  by_cases h : n = 0
  · subst h
    go_enter Try.func94, Try.ntmps94
    go_wp2
    go_ret
    exact ⟨_, fun _ => False, [], rfl, Below.refl _ _, Rp.own0 (by simp), List.nodup_nil, (fun b hb => by cases hb), fun b hb => hb.elim⟩
  · have h0 : 0 < n := by omega
    have d1 : decide ((n : Int) < 0) = false := decide_eq_false (by omega)
    have d2 : decide (0 < (n : Int)) = true := decide_eq_true (by omega)
    have d3 : decide (0 < n) = true := decide_eq_true (by omega)
    obtain ⟨i0, hi, hz0, hz⟩ : ∃ i0, Try.prog.info? 83 = some i0 ∧ i0.zero = some (.int .i32 0) ∧ i0.size = 1 ∧ i0.bytes = 4 := ⟨_, rfl, rfl, rfl, rfl⟩
    have happ := Lib.run_append_nil_zeros (P := Try.prog) w 51 3 51 83 i0 (.int .i32 0) .i64 .i64 Try.underlying51 Try.underlying3 hi hz0 n h0 (by rw [hz.1]; omega) (by omega) (by rw [hz.2]; omega)
    rw [← w1] at happ
    have hcap := grownCap_le_maxLen w n 0 83 (by simp only [maxLen]; omega)
    have hge := grownCap_ge w n 0 83
    have hsz : (Builtin.zeroCells (Value.int IntKind.i32 0).cells n ++ Builtin.zeroCells (Value.int IntKind.i32 0).cells (grownCap w n 0 83 - n)).size = grownCap w n 0 83 * 1 := by
      rw [Array.size_append, size_zeroCells, size_zeroCells]; show n * 1 + (_ - n) * 1 = _; omega
    have hcut := cut_to0 (P := Try.prog) 51 83 Try.underlying51 hi (some ⟨w.heap.size, 0, none⟩) n (grownCap w n 0 83)
    generalize grownCap w n 0 83 = cp at *
    generalize Builtin.zeroCells (Value.int IntKind.i32 0).cells n ++ Builtin.zeroCells (Value.int IntKind.i32 0).cells (cp - n) = arr at *
    have HA := Aside0.mk happ
    clear happ h0 hn h
    go_enter Try.func94, Try.ntmps94
    go_wp2_with (first | (at_builtin; refine Lib.wpList_append_run _ rfl (.tmp 20) (.tmp 21) 51 3 rfl _ _ rfl rfl _ _ HA.out ?_))
    go_ret
    refine ⟨_, fun _ => False, [w.heap.size], rfl, ((Below.refl _ _).drew).alloc (Nat.le_refl _) _, ?_, by simp, (fun b hb => ?_), fun b hb => hb.elim⟩
    · refine Rp.own (l := []) (cs := fun _ => []) (ts := fun _ => []) (by simp) (heap_alloc_new w.drew _) (Nat.zero_le _) hcap hsz (fun j hj => by cases hj) (fun j e he => by cases he) (fun j q u hj => by cases hj) (fun _ e he => by cases he)
    · cases hb with
      | head => exact ⟨Nat.le_refl _, by show _ < (Array.push _ _).size; rw [Array.size_push]; exact Nat.lt_succ_self _⟩
      | tail _ h => cases h
set_option maxHeartbeats 8000000 in
set_option maxRecDepth 100000 in
theorem grow2_ok {sz : Nat} {dp : Bool} {n : Nat} (hn : n ≤ 1000000) : Impl Try.prog 95 [.sl none (some true) sz dp [], .i .i64 n] (.sl (some 0) none 1 true []) := by
  refine headOk_impl rfl ⟨⟨Try.f95, Try.func95, by kernel_rfl, rfl⟩, fun F w vs hs hv hF => ?_⟩
  obtain ⟨v0, v1, rfl⟩ : ∃ v0 v1, vs = #[v0, v1] := ⟨vs[0]'(by rw [hs]; show 0 < 2; omega), vs[1]'(by rw [hs]; show 1 < 2; omega), by
    apply Array.ext
    · exact hs
    · intro i h1 h2
      match i with
      | 0 => rfl
      | 1 => rfl⟩
  have e0 := nil_rw (hv 0 _ v0 rfl rfl)
  have e1 := int_rw (hv 1 _ v1 rfl rfl)
  subst e0 e1
  clear hv hs
  have w1 : wrap64 (n : Int) = n := by unfold wrap64; omega
  by_cases h : n = 0
  · subst h
    go_enter Try.func95, Try.ntmps95
    go_wp2
    go_ret
    exact ⟨_, fun _ => False, [], rfl, Below.refl _ _, Rp.own0 (by simp), List.nodup_nil, (fun b hb => by cases hb), fun b hb => hb.elim⟩
  · have h0 : 0 < n := by omega
    have d1 : decide ((n : Int) < 0) = false := decide_eq_false (by omega)
    have d2 : decide (0 < (n : Int)) = true := decide_eq_true (by omega)
    have d3 : decide (0 < n) = true := decide_eq_true (by omega)
    obtain ⟨i0, hi, hz0, hz⟩ : ∃ i0, Try.prog.info? 51 = some i0 ∧ i0.zero = some (.slice none 0 0) ∧ i0.size = 1 ∧ i0.bytes = 24 := ⟨_, rfl, rfl, rfl, rfl⟩
    have happ := Lib.run_append_nil_zeros (P := Try.prog) w 97 3 97 51 i0 (.slice none 0 0) .i64 .i64 Try.underlying97 Try.underlying3 hi hz0 n h0 (by rw [hz.1]; omega) (by omega) (by rw [hz.2]; omega)
    rw [← w1] at happ
    have hcap := grownCap_le_maxLen w n 0 51 (by simp only [maxLen]; omega)
    have hge := grownCap_ge w n 0 51
    have hsz : (Builtin.zeroCells (Value.slice none 0 0).cells n ++ Builtin.zeroCells (Value.slice none 0 0).cells (grownCap w n 0 51 - n)).size = grownCap w n 0 51 * 1 := by
      rw [Array.size_append, size_zeroCells, size_zeroCells]; show n * 1 + (_ - n) * 1 = _; omega
    have hcut := cut_to0 (P := Try.prog) 97 51 Try.underlying97 hi (some ⟨w.heap.size, 0, none⟩) n (grownCap w n 0 51)
    generalize grownCap w n 0 51 = cp at *
    generalize Builtin.zeroCells (Value.slice none 0 0).cells n ++ Builtin.zeroCells (Value.slice none 0 0).cells (cp - n) = arr at *
    have HA := Aside0.mk happ
    clear happ h0 hn h
    go_enter Try.func95, Try.ntmps95
    go_wp2_with (first | (at_builtin; refine Lib.wpList_append_run _ rfl (.tmp 20) (.tmp 21) 97 3 rfl _ _ rfl rfl _ _ HA.out ?_))
    go_ret
    refine ⟨_, fun _ => False, [w.heap.size], rfl, ((Below.refl _ _).drew).alloc (Nat.le_refl _) _, ?_, by simp, (fun b hb => ?_), fun b hb => hb.elim⟩
    · refine Rp.own (l := []) (cs := fun _ => []) (ts := fun _ => []) (by simp) (heap_alloc_new w.drew _) (Nat.zero_le _) hcap hsz (fun j hj => by cases hj) (fun j e he => by cases he) (fun j q u hj => by cases hj) (fun h => by cases h)
    · cases hb with
      | head => exact ⟨Nat.le_refl _, by show _ < (Array.push _ _).size; rw [Array.size_push]; exact Nat.lt_succ_self _⟩
      | tail _ h => cases h
end Go.Proofs.Ytjihjjbieeofdaa.T
namespace Go.Proofs.Ytjihjjbieeofdaa.T
set_option linter.unusedSimpArgs false
set_option linter.unusedVariables false
open Go
set_option linter.unusedVariables false
set_option maxHeartbeats 8000000
set_option maxRecDepth 100000
theorem flat_snoc {α : Type} {l : List (List α)} {i : Nat} (h : i < l.length) : (l.take (i + 1)).flatten = (l.take i).flatten ++ l.getD i [] := by
  rw [take_snoc [] h, List.flatten_append]; simp
theorem flat_le {α : Type} (l : List (List α)) (i : Nat) : (l.take i).flatten.length ≤ l.flatten.length := by
  have := congrArg (fun x => (List.flatten x).length) (List.take_append_drop i l)
  simp only [List.flatten_append, List.length_append] at this
  omega
def eConc1 : Env := ⟨tbl, [], [], [], [(0, [0]), (1, [0, 3]), (2, [0, 3, 9, 10, 11]), (3, [0, 3, 9, 10, 11, 12]), (4, [0, 3, 5, 9, 10, 11]), (5, [0, 3, 9, 10, 11]), (6, [0, 3, 9, 10, 11, 20]), (7, [0, 3, 9, 10, 11]), (8, [0, 3, 9, 10, 11]), (9, [0, 6]), (10, [6, 25, 26, 27]), (11, [6, 25, 26, 27, 28]), (12, [6, 8, 25, 26, 27]), (13, [6, 25, 26, 27]), (14, [6, 25, 26, 27]), (15, [2])]⟩
theorem conc1_ok {nl : Option Bool} {l : List (List Int)} (hl : l.length ≤ 1000000) (hf : l.flatten.length ≤ 1000000) : Impl Try.prog 69 [.sl none nl 1 true (gl (rowA none) l)] (.sl (some 0) none 1 false (ints .i32 l.flatten)) := by
  have hG := fun {sz : Nat} {dp : Bool} => grow1_ok (sz := sz) (dp := dp) hf
  refine impl_of (fn := Try.f69) tbl_ok (by kernel_rfl) (by kernel_rfl) rfl ⟨by simp [Try.f69], by decide⟩ rfl fun W0 => ?_
  repeat' first
    | apply WP.seq
    | (apply WP.region (E := eConc1) mixed tbl_ok; conv => whnf)
    | apply WP.block
    | (apply reg_and; (· kernel_rfl); conv => whnf)
    | (apply ex_glen; conv => whnf)
    | fail
  refine WP.loopM [3, 5, 11, 12, 20] (fun i : Nat => [(3, .i .i64 (l.take i).flatten.length), (11, .i .i64 i)]) (fun i => i ≤ l.length) (fun i => l.length - i) 0 ?_
  conv => whnf
  refine And.intro (And.intro ?_ ?_) (fun i hi => ?_)
  · first | omega | trivial | skip
  · conv => whnf
    repeat' first
      | apply True.intro
      | (apply ptr_and; (· kernel_rfl); conv => whnf)
      | omega
      | (apply Or.inr; rfl)
      | (apply or_row; (· rfl); (· rfl); rfl)
      | (apply And.intro <;> conv => whnf)
      | rfl
      | fail
  conv => whnf
  by_cases hi2 : i < l.length
  · have ha := gl_at (f := rowA none) (l := l) (i := i) [] hi2
    have hsn := congrArg List.length (flat_snoc (l := l) (i := i) hi2)
    rw [List.length_append] at hsn
    have hle := flat_le l (i + 1)
    generalize (l.take i).flatten.length = n1 at *
    repeat' first
      | apply WP.seq
      | (apply WP.region (E := eConc1) mixed tbl_ok; conv => whnf)
      | (apply WP.cond; conv => whnf)
      | (apply WP.skip; conv => whnf)
      | apply WP.block
      | (apply ex_at ha; conv => whnf)
      | (apply reg_and; (· kernel_rfl); conv => whnf)
      | (apply ex_ilen; conv => whnf)
      | (apply ex_i64; (· omega); conv => whnf)
      | (apply ex_eq; conv => whnf)
      | (apply nd_gl; (· omega); conv => whnf)
      | (apply And.intro; (· first | with_reducible rfl | exact trivial | exact Or.inl ⟨rfl, rfl⟩ | exact Or.inr rfl | decide | omega | (apply Nat.le_of_ble_eq_true; rfl) | (dsimp only; omega) | (simp only [ints_len, gl_len, mp_len, List.length_cons, List.length_nil, List.length_drop, List.length_take]; omega)); conv => whnf)
      | (apply br_f; conv => whnf)
      | (apply br_yes; (· omega); conv => whnf)
      | fail
    refine Exists.intro (i + 1) (And.intro (And.intro (by omega) (by omega)) ?_)
    conv => whnf
    repeat' first
      | apply True.intro
      | (apply ptr_and; (· kernel_rfl); conv => whnf)
      | omega
      | (apply Or.inr; rfl)
      | (apply or_row; (· rfl); (· rfl); rfl)
      | (apply And.intro <;> conv => whnf)
      | fail
  · have e : i = l.length := by omega
    subst e
    rw [List.take_length]
    repeat' first
      | apply WP.seq
      | (apply WP.region (E := eConc1) mixed tbl_ok; conv => whnf)
      | (apply WP.cond; conv => whnf)
      | (apply WP.exit; conv => whnf)
      | apply WP.block
      | (apply reg_and; (· kernel_rfl); conv => whnf)
      | (apply ex_and; (· with_reducible exact hG); conv => whnf)
      | (apply ex_glen; conv => whnf)
      | (apply ex_eq; conv => whnf)
      | (apply And.intro; (· first | with_reducible rfl | exact trivial | exact Or.inl ⟨rfl, rfl⟩ | exact Or.inr rfl | decide | omega | (apply Nat.le_of_ble_eq_true; rfl) | (dsimp only; omega) | (simp only [ints_len, gl_len, mp_len, List.length_cons, List.length_nil, List.length_drop, List.length_take]; omega)); conv => whnf)
      | (apply br_no; (· omega); conv => whnf)
      | fail
    refine WP.loopM [6, 8, 27, 28] (fun i : Nat => [(6, .sl (some 0) none 1 false (ints .i32 (l.take i).flatten)), (27, .i .i64 i)]) (fun i => i ≤ l.length) (fun i => l.length - i) 0 ?_
    conv => whnf
    refine And.intro (And.intro ?_ ?_) (fun i hi => ?_)
    · first | omega | trivial | skip
    · conv => whnf
      repeat' first
        | apply True.intro
        | (apply ptr_and; (· kernel_rfl); conv => whnf)
        | omega
        | (apply Or.inr; rfl)
        | (apply or_row; (· rfl); (· rfl); rfl)
        | (apply And.intro <;> conv => whnf)
        | fail
    conv => whnf
    by_cases hi2 : i < l.length
    · have ha := gl_at (f := rowA none) (l := l) (i := i) [] hi2
      have hsn := flat_snoc (l := l) (i := i) hi2
      have hlen := congrArg List.length hsn
      rw [List.length_append] at hlen
      have hle := flat_le l (i + 1)
      have hap : ints .i32 (l.take i).flatten ++ ints .i32 (l.getD i []) = ints .i32 (l.take (i + 1)).flatten := by rw [hsn]; simp [ints]
      generalize (l.take i).flatten = r1 at *
      generalize l.getD i [] = r3 at *
      repeat' first
        | apply WP.seq
        | (apply WP.region (E := eConc1) mixed tbl_ok; conv => whnf)
        | (apply WP.cond; conv => whnf)
        | (apply WP.skip; conv => whnf)
        | apply WP.block
        | (apply ex_at ha; conv => whnf)
        | (apply reg_and; (· kernel_rfl); conv => whnf)
        | (apply ex_i64; (· omega); conv => whnf)
        | (apply ex_eq; conv => whnf)
        | (apply nd_gl; (· omega); conv => whnf)
        | (apply And.intro; (· first | with_reducible rfl | exact trivial | exact Or.inl ⟨rfl, rfl⟩ | exact Or.inr rfl | decide | omega | (apply Nat.le_of_ble_eq_true; rfl) | (dsimp only; omega) | (simp only [ints_len, gl_len, mp_len, List.length_cons, List.length_nil, List.length_drop, List.length_take]; omega)); conv => whnf)
        | (apply br_yes; (· omega); conv => whnf)
        | fail
      refine Exists.intro (i + 1) (And.intro (And.intro (by omega) (by omega)) ?_)
      conv => whnf
      repeat' first
        | apply True.intro
        | (apply ptr_and; (· kernel_rfl); conv => whnf)
        | omega
        | (apply Or.inr; rfl)
        | (apply Or.inl; rfl)
        | (apply or_row; (· rfl); (· rfl); rfl)
        | (apply And.intro <;> conv => whnf)
        | (apply or_row; (· rfl); (· rfl); exact hap)
        | fail
    · have e : i = l.length := by omega
      subst e
      rw [List.take_length]
      repeat' first
        | apply WP.seq
        | (apply WP.region (E := eConc1) mixed tbl_ok; conv => whnf)
        | (apply WP.cond; conv => whnf)
        | (apply WP.ret; conv => whnf)
        | (apply WP.exit; conv => whnf)
        | (apply reg_and; (· kernel_rfl); conv => whnf)
        | (apply ex_eq; conv => whnf)
        | (apply And.intro; (· first | with_reducible rfl | exact trivial | exact Or.inl ⟨rfl, rfl⟩ | exact Or.inr rfl | decide | omega | (apply Nat.le_of_ble_eq_true; rfl) | (dsimp only; omega) | (simp only [ints_len, gl_len, mp_len, List.length_cons, List.length_nil, List.length_drop, List.length_take]; omega)); conv => whnf)
        | (apply br_no; (· omega); conv => whnf)
        | (apply or_row; (· rfl); (· rfl); with_reducible rfl)
        | fail
      skip
def eConc2 : Env := ⟨tbl, [], [33], [], [(0, [0]), (1, [0, 3]), (2, [0, 3, 9, 10, 11]), (3, [0, 3, 9, 10, 11, 12]), (4, [0, 3, 5, 9, 10, 11]), (5, [0, 3, 9, 10, 11]), (6, [0, 3, 9, 10, 11, 20]), (7, [0, 3, 9, 10, 11]), (8, [0, 3, 9, 10, 11]), (9, [0, 6]), (10, [6, 25, 26, 27]), (11, [6, 25, 26, 27, 28]), (12, [6, 8, 25, 26, 27]), (13, [6, 25, 26, 27]), (14, [6, 25, 26, 27]), (15, [2])]⟩
theorem conc2_ok {nl : Option Bool} {l : LL} (hl : l.length ≤ 1000000) (hf : l.flatten.length ≤ 1000000) : Impl Try.prog 70 [.sl none nl 1 true (gl (rowsA none) l)] (.sl (some 0) none 1 true (gl (rowA none) l.flatten)) := by
  have hG := fun {sz : Nat} {dp : Bool} => grow2_ok (sz := sz) (dp := dp) hf
  refine impl_of (fn := Try.f70) tbl_ok (by kernel_rfl) (by kernel_rfl) rfl ⟨by simp [Try.f70], by decide⟩ rfl fun W0 => ?_
  repeat' first
    | apply WP.seq
    | (apply WP.region (E := eConc2) mixed tbl_ok; conv => whnf)
    | apply WP.block
    | (apply reg_and; (· kernel_rfl); conv => whnf)
    | (apply ex_glen; conv => whnf)
    | fail
  refine WP.loopM [3, 5, 11, 12, 20] (fun i : Nat => [(3, .i .i64 (l.take i).flatten.length), (11, .i .i64 i)]) (fun i => i ≤ l.length) (fun i => l.length - i) 0 ?_
  conv => whnf
  refine And.intro (And.intro ?_ ?_) (fun i hi => ?_)
  · first | omega | trivial | skip
  · conv => whnf
    repeat' first
      | apply True.intro
      | (apply ptr_and; (· kernel_rfl); conv => whnf)
      | omega
      | (apply Or.inr; rfl)
      | (apply or_row; (· rfl); (· rfl); rfl)
      | (apply And.intro <;> conv => whnf)
      | rfl
      | fail
  conv => whnf
  by_cases hi2 : i < l.length
  · have ha := gl_at (f := rowsA none) (l := l) (i := i) [] hi2
    have hsn := congrArg List.length (flat_snoc (l := l) (i := i) hi2)
    rw [List.length_append] at hsn
    have hle := flat_le l (i + 1)
    generalize (l.take i).flatten.length = n1 at *
    repeat' first
      | (rw [fz_rows]; conv => whnf)
      | apply WP.seq
      | (apply WP.region (E := eConc2) mixed tbl_ok; conv => whnf)
      | (apply WP.cond; conv => whnf)
      | (apply WP.skip; conv => whnf)
      | apply WP.block
      | (apply ex_at ha; conv => whnf)
      | (apply reg_and; (· kernel_rfl); conv => whnf)
      | (apply ex_glen; conv => whnf)
      | (apply ex_i64; (· omega); conv => whnf)
      | (apply ex_eq; conv => whnf)
      | (apply nd_gl; (· omega); conv => whnf)
      | (apply And.intro; (· first | with_reducible rfl | exact trivial | exact Or.inl ⟨rfl, rfl⟩ | exact Or.inr rfl | decide | omega | (apply Nat.le_of_ble_eq_true; rfl) | (dsimp only; omega) | (simp only [ints_len, gl_len, mp_len, List.length_cons, List.length_nil, List.length_drop, List.length_take]; omega)); conv => whnf)
      | (apply br_f; conv => whnf)
      | (apply br_yes; (· omega); conv => whnf)
      | fail
    refine Exists.intro (i + 1) (And.intro (And.intro (by omega) (by omega)) ?_)
    conv => whnf
    repeat' first
      | apply True.intro
      | (apply ptr_and; (· kernel_rfl); conv => whnf)
      | omega
      | (apply Or.inr; rfl)
      | (apply or_row; (· rfl); (· rfl); rfl)
      | (apply And.intro <;> conv => whnf)
      | fail
  · have e : i = l.length := by omega
    subst e
    rw [List.take_length]
    repeat' first
      | apply WP.seq
      | (apply WP.region (E := eConc2) mixed tbl_ok; conv => whnf)
      | (apply WP.cond; conv => whnf)
      | (apply WP.exit; conv => whnf)
      | apply WP.block
      | (apply reg_and; (· kernel_rfl); conv => whnf)
      | (apply ex_and; (· with_reducible exact hG); conv => whnf)
      | (apply ex_glen; conv => whnf)
      | (apply ex_eq; conv => whnf)
      | (apply And.intro; (· first | with_reducible rfl | exact trivial | exact Or.inl ⟨rfl, rfl⟩ | exact Or.inr rfl | decide | omega | (apply Nat.le_of_ble_eq_true; rfl) | (dsimp only; omega) | (simp only [ints_len, gl_len, mp_len, List.length_cons, List.length_nil, List.length_drop, List.length_take]; omega)); conv => whnf)
      | (apply br_no; (· omega); conv => whnf)
      | fail
    refine WP.loopM [6, 8, 27, 28] (fun i : Nat => [(6, .sl (some 0) none 1 true (gl (rowA none) (l.take i).flatten)), (27, .i .i64 i)]) (fun i => i ≤ l.length) (fun i => l.length - i) 0 ?_
    conv => whnf
    refine And.intro (And.intro ?_ ?_) (fun i hi => ?_)
    · first | omega | trivial | skip
    · conv => whnf
      repeat' first
        | apply True.intro
        | (apply ptr_and; (· kernel_rfl); conv => whnf)
        | omega
        | (apply Or.inr; rfl)
        | (apply or_row; (· rfl); (· rfl); rfl)
        | (apply And.intro <;> conv => whnf)
        | fail
    conv => whnf
    by_cases hi2 : i < l.length
    · have ha := gl_at (f := rowsA none) (l := l) (i := i) [] hi2
      have hsn := flat_snoc (l := l) (i := i) hi2
      have hlen := congrArg List.length hsn
      rw [List.length_append] at hlen
      have hle := flat_le l (i + 1)
      have hap : gl (rowA none) (l.take i).flatten ++ gl (rowA none) (l.getD i []) = gl (rowA none) (l.take (i + 1)).flatten := by rw [hsn]; simp [gl]
      generalize (l.take i).flatten = r1 at *
      generalize l.getD i [] = r3 at *
      repeat' first
        | (rw [fz_rows]; conv => whnf)
        | apply WP.seq
        | (apply WP.region (E := eConc2) mixed tbl_ok; conv => whnf)
        | (apply WP.cond; conv => whnf)
        | (apply WP.skip; conv => whnf)
        | apply WP.block
        | (apply ex_at ha; conv => whnf)
        | (apply reg_and; (· kernel_rfl); conv => whnf)
        | (apply ex_i64; (· omega); conv => whnf)
        | (apply ex_eq; conv => whnf)
        | (apply nd_gl; (· omega); conv => whnf)
        | (apply And.intro; (· first | with_reducible rfl | exact trivial | exact Or.inl ⟨rfl, rfl⟩ | exact Or.inr rfl | decide | omega | (apply Nat.le_of_ble_eq_true; rfl) | (dsimp only; omega) | (simp only [ints_len, gl_len, mp_len, List.length_cons, List.length_nil, List.length_drop, List.length_take]; omega)); conv => whnf)
        | (apply br_yes; (· omega); conv => whnf)
        | fail
      refine Exists.intro (i + 1) (And.intro (And.intro (by omega) (by omega)) ?_)
      conv => whnf
      repeat' first
        | apply True.intro
        | (apply ptr_and; (· kernel_rfl); conv => whnf)
        | omega
        | (apply Or.inr; rfl)
        | (apply Or.inl; rfl)
        | (apply or_row; (· rfl); (· rfl); rfl)
        | (apply And.intro <;> conv => whnf)
        | (apply or_row; (· rfl); (· rfl); exact hap)
        | fail
    · have e : i = l.length := by omega
      subst e
      rw [List.take_length]
      repeat' first
        | apply WP.seq
        | (apply WP.region (E := eConc2) mixed tbl_ok; conv => whnf)
        | (apply WP.cond; conv => whnf)
        | (apply WP.ret; conv => whnf)
        | (apply WP.exit; conv => whnf)
        | (apply reg_and; (· kernel_rfl); conv => whnf)
        | (apply ex_eq; conv => whnf)
        | (apply And.intro; (· first | with_reducible rfl | exact trivial | exact Or.inl ⟨rfl, rfl⟩ | exact Or.inr rfl | decide | omega | (apply Nat.le_of_ble_eq_true; rfl) | (dsimp only; omega) | (simp only [ints_len, gl_len, mp_len, List.length_cons, List.length_nil, List.length_drop, List.length_take]; omega)); conv => whnf)
        | (apply br_no; (· omega); conv => whnf)
        | (apply or_row; (· rfl); (· rfl); with_reducible rfl)
        | fail
      skip
end Go.Proofs.Ytjihjjbieeofdaa.T
namespace Go.Proofs.Ytjihjjbieeofdaa.T
set_option linter.unusedSimpArgs false
set_option linter.unusedVariables false
open Go
set_option linter.unusedVariables false
set_option maxHeartbeats 8000000
set_option maxRecDepth 100000
/-- A number as four bytes, the highest first. -/
def nb (x : Int) : List Int := [x / 2 ^ 24 % 256, x / 2 ^ 16 % 256, x / 2 ^ 8 % 256, x % 256]
def sB (K : LL) : List Int := K.flatten.flatten.flatMap nb
def hB (b : Bk) : List Int := [(b.t.length : Int) % 256, b.f % 256]
def tB (t : List Int) : List Int := t.map (· % 256)
def byts (b : Bk) : List Int := hB b ++ tB b.t ++ sB b.k ++ sB b.v
theorem ex_u8w {e : Int} {p : AV → Prop} (hp : p (.i .u8 (e % 256))) : ∃ v, v = .i .u8 (IntKind.u8.wrap e) ∧ p v := by
  have : IntKind.u8.wrap e = e % 256 := by rw [IntKind.wrap_u8]
  rw [this]; exact ⟨_, rfl, hp⟩
theorem u8s_all (l : List Int) : U8s (ints .u8 l) := fun v hv => by
  unfold ints at hv
  obtain ⟨n, _, rfl⟩ := List.mem_map.1 hv
  exact ⟨n, rfl⟩
theorem nb_len (x : Int) : (nb x).length = 4 := rfl
theorem nbs_len : ∀ l : List Int, (l.flatMap nb).length = 4 * l.length
  | [] => rfl
  | x :: l => by rw [List.flatMap_cons, List.length_append, nbs_len l, nb_len, List.length_cons]; omega
theorem tB_len (t : List Int) : (tB t).length = t.length := List.length_map _
theorem u8_app (a b : List Int) : ints .u8 a ++ ints .u8 b = ints .u8 (a ++ b) := by simp [ints]
def eBytes : Env := ⟨tbl, [], [], [], [(0, [2, 3, 3999, 3000, 3001, 3002, 3003, 3004, 4999, 4000, 4001, 4002, 4003]), (1, [3, 6, 4999, 4000, 4001, 4002, 4003]), (2, [3, 6, 18, 4999, 4000, 4001, 4002, 4003]), (3, [4, 5]), (4, [3, 7, 4999, 4000, 4001, 4002, 4003]), (5, [3, 7, 29, 30, 31, 4999, 4000, 4001, 4002, 4003]), (6, [3, 7, 29, 30, 31, 32, 4999, 4000, 4001, 4002, 4003]), (7, [3, 7, 9, 29, 30, 31, 4999, 4000, 4001, 4002, 4003]), (8, [3, 7, 29, 30, 31, 4999, 4000, 4001, 4002, 4003]), (9, [3, 7, 29, 30, 31, 4999, 4000, 4001, 4002, 4003]), (10, [7, 47, 48, 49]), (11, [7, 47, 48, 49, 50]), (12, [7, 11, 47, 48, 49]), (13, [7, 47, 48, 49, 55, 56, 57]), (14, [7, 47, 48, 49, 55, 56, 57, 58]), (15, [7, 13, 47, 48, 49, 55, 56, 57]), (16, [7, 47, 48, 49, 55, 56, 57]), (17, [7, 47, 48, 49, 55, 56, 57]), (18, [7, 47, 48, 49]), (19, [4, 5])]⟩
theorem bytes_ok {c : Cfg} {b : Bk} (hs : BkS b) (h : chkB c b.t b.f b.k b.v = 0) (hk1 : b.k.flatten.length ≤ 1000000) (hk2 : b.k.flatten.flatten.length ≤ 1000000) (hv1 : b.v.flatten.length ≤ 1000000) (hv2 : b.v.flatten.flatten.length ≤ 1000000) : Impl Try.prog 40 [cfgA c, blkF b] (.tup [.s (bytesOf (ints .u8 (byts b))), .i .i64 0]) := by
  have hC := fun {n1 n2 n3 : Option Bool} => bcheck_ok (n1 := n1) (n2 := n2) (n3 := n3) c hs.t hs.f hs.k hs.v
  rw [h] at hC
  obtain ⟨⟨f1, f2, f3, f4, f5, f6⟩, -, -⟩ := chkB_zero h
  have hhl : (hB b).length = 2 := rfl
  have hst : [.i .u8 ((b.t.length : Int) % 256), .i .u8 (b.f % 256)] = ints .u8 (hB b ++ tB (b.t.take 0)) := rfl
  have hkl := hs.k.1
  have hvl := hs.v.1
  have hby : byts b = hB b ++ tB b.t ++ sB b.k ++ sB b.v := rfl
  obtain ⟨t, f, k, v⟩ := b
  dsimp only at *
  rw [hby]
  generalize hB ⟨t, f, k, v⟩ = hb at *
  show Impl _ _ [cfgA c, bkA t f k v none none none] _
  refine impl_of (fn := Try.f40) tbl_ok (by kernel_rfl) (by kernel_rfl) rfl ⟨by simp [Try.f40], by decide⟩ rfl fun W0 => ?_
  repeat' first
    | (rw [fz_rows3]; conv => whnf)
    | apply WP.seq
    | (apply WP.region (E := eBytes) mixed tbl_ok; conv => whnf)
    | (apply WP.cond; conv => whnf)
    | (apply WP.skip; conv => whnf)
    | apply WP.block
    | (apply ex_u8w; conv => whnf)
    | (apply reg_and; (· kernel_rfl); conv => whnf)
    | (apply ex_and; (· with_reducible exact hC); conv => whnf)
    | (apply ex_ilen; conv => whnf)
    | (apply ex_eq; conv => whnf)
    | (apply And.intro; (· first | with_reducible rfl | exact trivial | exact Or.inl ⟨rfl, rfl⟩ | exact Or.inr rfl | decide | omega | (apply Nat.le_of_ble_eq_true; rfl) | (dsimp only; omega) | (simp only [ints_len, gl_len, mp_len, List.length_cons, List.length_nil, List.length_drop, List.length_take]; omega)); conv => whnf)
    | apply br_not
    | (apply br_t; conv => whnf)
    | fail
  refine WP.loopM [7, 9, 31, 32] (fun i : Nat => [(7, .sl (some 0) none 1 false (ints .u8 (hb ++ tB (t.take i)))), (31, .i .i64 i)]) (fun i => i ≤ t.length) (fun i => t.length - i) 0 ?_
  conv => whnf
  refine And.intro (And.intro ?_ ?_) (fun i hi => ?_)
  · omega
  · conv => whnf
    repeat' first
      | apply True.intro
      | (apply ptr_and; (· kernel_rfl); conv => whnf)
      | omega
      | (apply Or.inr; rfl)
      | (apply Or.inl; rfl)
      | (apply or_row; (· rfl); (· rfl); rfl)
      | (apply And.intro <;> conv => whnf)
      | (apply or_row; (· rfl); (· rfl); exact hst)
      | fail
  conv => whnf
  by_cases hi2 : i < t.length
  · have hsn : ints .u8 (hb ++ tB (t.take i)) ++ [.i .u8 (t.getD ((i : Nat) : Int).toNat 0 % 256)] = ints .u8 (hb ++ tB (t.take (i + 1))) := by
      rw [take_snoc 0 hi2, Int.toNat_natCast]; unfold tB ints; simp
    have hl1 : (hb ++ tB (t.take i)).length ≤ 1000 := by rw [List.length_append, tB_len, List.length_take]; omega
    generalize hb ++ tB (t.take i) = l1 at *
    repeat' first
      | apply WP.seq
      | (apply WP.region (E := eBytes) mixed tbl_ok; conv => whnf)
      | (apply WP.cond; conv => whnf)
      | (apply WP.skip; conv => whnf)
      | apply WP.block
      | (apply ex_u8w; conv => whnf)
      | (apply reg_and; (· kernel_rfl); conv => whnf)
      | (apply ex_i64; (· omega); conv => whnf)
      | (apply ex_ints; (· omega); conv => whnf)
      | (apply ex_eq; conv => whnf)
      | (apply nd_ints; (· omega); conv => whnf)
      | (apply And.intro; (· first | with_reducible rfl | exact trivial | exact Or.inl ⟨rfl, rfl⟩ | exact Or.inr rfl | decide | omega | (apply Nat.le_of_ble_eq_true; rfl) | (dsimp only; omega) | (simp only [ints_len, gl_len, mp_len, List.length_cons, List.length_nil, List.length_drop, List.length_take]; omega)); conv => whnf)
      | (apply br_yes; (· omega); conv => whnf)
      | fail
    refine Exists.intro (i + 1) (And.intro (And.intro (by omega) (by omega)) ?_)
    conv => whnf
    repeat' first
      | apply True.intro
      | (apply ptr_and; (· kernel_rfl); conv => whnf)
      | omega
      | (apply Or.inr; rfl)
      | (apply Or.inl; rfl)
      | (apply or_row; (· rfl); (· rfl); rfl)
      | (apply And.intro <;> conv => whnf)
      | (apply or_row; (· rfl); (· rfl); exact hsn)
      | fail
  · have e : i = t.length := by omega
    subst e
    rw [List.take_length]
    have hl1 : (hb ++ tB t).length ≤ 1000 := by rw [List.length_append, tB_len]; omega
    generalize hb ++ tB t = l1 at *
    repeat' first
      | (rw [fz_rows3]; conv => whnf)
      | apply WP.seq
      | (apply WP.region (E := eBytes) mixed tbl_ok; conv => whnf)
      | (apply WP.cond; conv => whnf)
      | (apply WP.exit; conv => whnf)
      | apply WP.block
      | (apply reg_and; (· kernel_rfl); conv => whnf)
      | (apply ex_eq; conv => whnf)
      | (apply And.intro; (· first | with_reducible rfl | exact trivial | exact Or.inl ⟨rfl, rfl⟩ | exact Or.inr rfl | decide | omega | (apply Nat.le_of_ble_eq_true; rfl) | (dsimp only; omega) | (simp only [ints_len, gl_len, mp_len, List.length_cons, List.length_nil, List.length_drop, List.length_take]; omega)); conv => whnf)
      | (apply br_no; (· omega); conv => whnf)
      | fail
    have hz : ints .u8 l1 = ints .u8 (l1 ++ ([k, v].take 0).flatMap sB) := by simp
    refine WP.loopM [7, 11, 13, 49, 50, 55, 56, 57, 58] (fun j : Nat => [(7, .sl (some 0) none 1 false (ints .u8 (l1 ++ ([k, v].take j).flatMap sB))), (49, .i .i64 j)]) (fun j => j ≤ 2) (fun j => 2 - j) 0 ?_
    conv => whnf
    refine And.intro (And.intro ?_ ?_) (fun j hj => ?_)
    · omega
    · conv => whnf
      repeat' first
        | apply True.intro
        | (apply ptr_and; (· kernel_rfl); conv => whnf)
        | omega
        | (apply Or.inr; rfl)
        | (apply or_row; (· rfl); (· rfl); rfl)
        | (apply And.intro <;> conv => whnf)
        | (apply or_row; (· rfl); (· rfl); exact hz)
        | fail
    conv => whnf
    have hlc : ([rows3 none k, rows3 none v] : List AV).length = 2 := rfl
    by_cases hj2 : j < 2
    · have ha : ([rows3 none k, rows3 none v] : List AV)[((j : Nat) : Int).toNat]? = some (rows3 none ([k, v].getD j [])) := by
        rcases (by omega : j = 0 ∨ j = 1) with rfl | rfl <;> rfl
      have hK : ([k, v].getD j []).length ≤ 1000000 ∧ ([k, v].getD j []).flatten.length ≤ 1000000 ∧ ([k, v].getD j []).flatten.flatten.length ≤ 1000000 := by
        rcases (by omega : j = 0 ∨ j = 1) with rfl | rfl
        · exact ⟨hkl, hk1, hk2⟩
        · exact ⟨hvl, hv1, hv2⟩
      have hsn : l1 ++ ([k, v].take (j + 1)).flatMap sB = l1 ++ ([k, v].take j).flatMap sB ++ ([k, v].getD j []).flatten.flatten.flatMap nb := by
        rw [take_snoc [] (by simpa using hj2), List.flatMap_append, List.append_assoc]; simp [sB]
      have hl2 : (l1 ++ ([k, v].take j).flatMap sB).length ≤ 5000000 := by
        rcases (by omega : j = 0 ∨ j = 1) with rfl | rfl
        · simp; omega
        · show (l1 ++ (sB k ++ [])).length ≤ _
          rw [List.append_nil, List.length_append]; unfold sB; rw [nbs_len]; omega
      rw [show ((j + 1 : Nat)) = j + 1 from rfl] at hsn
      generalize l1 ++ ([k, v].take j).flatMap sB = l2 at *
      generalize [k, v].getD j [] = K at *
      obtain ⟨q1, q2, q3⟩ := hK
      have c2 := fun {nl : Option Bool} => conc2_ok (nl := nl) (l := K) q1 q2
      have c1 := fun {nl : Option Bool} => conc1_ok (nl := nl) (l := K.flatten) q2 q3
      generalize K.flatten.flatten = X at *
      generalize K.flatten = K1 at *
      have hz2 : ints .u8 l2 = ints .u8 (l2 ++ (X.take 0).flatMap nb) := by simp
      repeat' first
        | (rw [fz_rows3]; conv => whnf)
        | (rw [fz_rows]; conv => whnf)
        | apply WP.seq
        | (apply WP.region (E := eBytes) mixed tbl_ok; conv => whnf)
        | (apply WP.cond; conv => whnf)
        | (apply WP.skip; conv => whnf)
        | apply WP.block
        | (apply br_yes; (· show (j : Int) < ((2 : Nat) : Int); omega); conv => whnf)
        | (apply ex_at ha; conv => whnf)
        | (apply reg_and; (· kernel_rfl); conv => whnf)
        | (apply ex_and; (· with_reducible exact c2); conv => whnf)
        | (apply ex_and; (· with_reducible exact c1); conv => whnf)
        | (apply ex_ilen; conv => whnf)
        | (apply ex_eq; conv => whnf)
        | (apply And.intro; (· first | with_reducible rfl | exact trivial | exact Or.inl ⟨rfl, rfl⟩ | exact Or.inr rfl | decide | omega | (apply Nat.le_of_ble_eq_true; rfl) | (dsimp only; omega) | (simp only [ints_len, gl_len, mp_len, List.length_cons, List.length_nil, List.length_drop, List.length_take]; omega)); conv => whnf)
        | fail
      refine WP.loopM [7, 13, 57, 58] (fun m : Nat => [(7, .sl (some 0) none 1 false (ints .u8 (l2 ++ (X.take m).flatMap nb))), (57, .i .i64 m)]) (fun m => m ≤ X.length) (fun m => X.length - m) 0 ?_
      conv => whnf
      refine And.intro (And.intro ?_ ?_) (fun m hm => ?_)
      · omega
      · conv => whnf
        repeat' first
          | apply True.intro
          | (apply ptr_and; (· kernel_rfl); conv => whnf)
          | omega
          | (apply Or.inr; rfl)
          | (apply or_row; (· rfl); (· rfl); rfl)
          | (apply And.intro <;> conv => whnf)
          | (apply or_row; (· rfl); (· rfl); exact hz2)
          | fail
      conv => whnf
      by_cases hm : m < X.length
      · have hs2 : ints .u8 (l2 ++ (X.take m).flatMap nb) ++ [.i .u8 (X.getD ((m : Nat) : Int).toNat 0 / 2 ^ 24 % 256), .i .u8 (X.getD ((m : Nat) : Int).toNat 0 / 2 ^ 16 % 256), .i .u8 (X.getD ((m : Nat) : Int).toNat 0 / 2 ^ 8 % 256), .i .u8 (X.getD ((m : Nat) : Int).toNat 0 % 256)] = ints .u8 (l2 ++ (X.take (m + 1)).flatMap nb) := by
          rw [take_snoc 0 hm, Int.toNat_natCast, List.flatMap_append, ← List.append_assoc, ← u8_app]; simp [nb, ints]
        have hl3 : (l2 ++ (X.take m).flatMap nb).length ≤ 10000000 := by rw [List.length_append, nbs_len, List.length_take]; omega
        generalize l2 ++ (X.take m).flatMap nb = l3 at *
        repeat' first
          | apply WP.seq
          | (apply WP.region (E := eBytes) mixed tbl_ok; conv => whnf)
          | (apply WP.cond; conv => whnf)
          | (apply WP.skip; conv => whnf)
          | apply WP.block
          | (apply ex_shr 24; (· rfl); conv => whnf)
          | (apply ex_shr 16; (· rfl); conv => whnf)
          | (apply ex_shr 8; (· rfl); conv => whnf)
          | (apply ex_u8w; conv => whnf)
          | (apply reg_and; (· kernel_rfl); conv => whnf)
          | (apply ex_i64; (· omega); conv => whnf)
          | (apply ex_ints; (· omega); conv => whnf)
          | (apply ex_eq; conv => whnf)
          | (apply nd_ints; (· omega); conv => whnf)
          | (apply And.intro; (· first | with_reducible rfl | exact trivial | exact Or.inl ⟨rfl, rfl⟩ | exact Or.inr rfl | decide | omega | (apply Nat.le_of_ble_eq_true; rfl) | (dsimp only; omega) | (simp only [ints_len, gl_len, mp_len, List.length_cons, List.length_nil, List.length_drop, List.length_take]; omega)); conv => whnf)
          | (apply br_yes; (· omega); conv => whnf)
          | fail
        refine Exists.intro (m + 1) (And.intro (And.intro (by omega) (by omega)) ?_)
        conv => whnf
        repeat' first
          | apply True.intro
          | (apply ptr_and; (· kernel_rfl); conv => whnf)
          | omega
          | (apply Or.inr; rfl)
          | (apply Or.inl; rfl)
          | (apply or_row; (· rfl); (· rfl); rfl)
          | (apply And.intro <;> conv => whnf)
          | (apply or_row; (· rfl); (· rfl); exact hs2)
          | fail
      · have e : m = X.length := by omega
        subst e
        rw [List.take_length]
        repeat' first
          | apply WP.seq
          | (apply WP.region (E := eBytes) mixed tbl_ok; conv => whnf)
          | (apply WP.cond; conv => whnf)
          | (apply WP.exit; conv => whnf)
          | (apply reg_and; (· kernel_rfl); conv => whnf)
          | (apply ex_i64; (· omega); conv => whnf)
          | (apply ex_eq; conv => whnf)
          | (apply And.intro; (· first | with_reducible rfl | exact trivial | exact Or.inl ⟨rfl, rfl⟩ | exact Or.inr rfl | decide | omega | (apply Nat.le_of_ble_eq_true; rfl) | (dsimp only; omega) | (simp only [ints_len, gl_len, mp_len, List.length_cons, List.length_nil, List.length_drop, List.length_take]; omega)); conv => whnf)
          | (apply br_no; (· omega); conv => whnf)
          | fail
        refine Exists.intro (j + 1) (And.intro (And.intro (by omega) (by omega)) ?_)
        conv => whnf
        repeat' first
          | apply True.intro
          | (apply ptr_and; (· kernel_rfl); conv => whnf)
          | omega
          | (apply Or.inr; rfl)
          | (apply or_row; (· rfl); (· rfl); rfl)
          | (apply And.intro <;> conv => whnf)
          | (apply or_row; (· rfl); (· rfl); exact congrArg (ints .u8) hsn.symm)
          | fail
    · have e : j = 2 := by omega
      subst e
      have hz3 : l1 ++ ([k, v].take 2).flatMap sB = l1 ++ sB k ++ sB v := by simp
      rw [hz3]
      repeat' first
        | apply WP.seq
        | (apply WP.region (E := eBytes) mixed tbl_ok; conv => whnf)
        | (apply WP.cond; conv => whnf)
        | (apply WP.ret; conv => whnf)
        | (apply WP.exit; conv => whnf)
        | (apply And.intro (u8s_all _); conv => whnf)
        | (apply reg_and; (· kernel_rfl); conv => whnf)
        | (apply ex_eq; conv => whnf)
        | (apply nodup_and; (· exact of_decide_eq_true (by kernel_rfl)); conv => whnf)
        | (apply And.intro; (· first | with_reducible rfl | exact trivial | exact Or.inl ⟨rfl, rfl⟩ | exact Or.inr rfl | decide | omega | (apply Nat.le_of_ble_eq_true; rfl) | (dsimp only; omega) | (simp only [ints_len, gl_len, mp_len, List.length_cons, List.length_nil, List.length_drop, List.length_take]; omega)); conv => whnf)
        | (apply br_f; conv => whnf)
        | fail
      repeat' first
        | apply True.intro
        | (apply And.intro <;> conv => whnf)
        | (apply Nat.le_of_ble_eq_true; rfl)
        | fail
end Go.Proofs.Ytjihjjbieeofdaa.T
namespace Go.Proofs.Ytjihjjbieeofdaa.T
set_option linter.unusedSimpArgs false
set_option linter.unusedVariables false
open Go
set_option linter.unusedVariables false
set_option maxHeartbeats 8000000
set_option maxRecDepth 100000
/-- A page of so many tokens. -/
def pg (p : Nat) (t : List Int) (K V : LL) (i : Nat) : Bk := ⟨t.take (min (i * p + p) t.length), ((i * p : Nat) : Int), winL (i * p) (min (i * p + p) t.length) K, winL (i * p) (min (i * p + p) t.length) V⟩
def pgs (p : Nat) (t : List Int) (K V : LL) : List Bk := mp ((t.length + p - 1) / p) (pg p t K V)
abbrev N2 : Type := Nat × Nat
def eSplit : Env := ⟨tbl, [41, 48, 54], [58], [], [(0, [2, 3, 4, 4999, 4000, 4001, 4002, 4003, 4004, 5999, 5000, 5001, 5002]), (1, [2, 3, 4, 16, 4999, 4000, 4001, 4002, 4003, 4004, 5999, 5000, 5001, 5002]), (2, [6, 7]), (3, [2, 4, 20, 5999, 5000, 5001, 5002]), (4, [6, 7]), (5, [2, 4, 8, 5999, 5000, 5001, 5002]), (6, [2, 4, 8, 9, 5999, 5000, 5001, 5002]), (7, [2, 4, 8, 9, 25, 5999, 5000, 5001, 5002]), (8, [2, 4, 8, 9, 5999, 5000, 5001, 5002]), (9, [2, 4, 8, 9, 10, 5999, 5000, 5001, 5002]), (10, [2, 4, 8, 9, 5999, 5000, 5001, 5002]), (11, [6, 7])]⟩
theorem split_ok {c : Cfg} {n1 n2 n3 : Option Bool} (p : Nat) (hp : 1 ≤ p ∧ p ≤ 16) {t : List Int} {K V : LL} (ht : t.length ≤ 1000) (hK : Siz3 K) (hV : Siz3 V) (hk : ∀ r ∈ K, r.length = t.length) (hv : ∀ r ∈ V, r.length = t.length) (hF : ∀ {n1 n2 n3 : Option Bool}, Impl Try.prog 68 [cfgA c, .agg [.sl none n1 1 false (ints .i64 t), .sl none n2 1 true (gl (rowsA none) K), .sl none n3 1 true (gl (rowsA none) V)]] (.b true)) : Impl Try.prog 39 [cfgA c, .agg [.sl none n1 1 false (ints .i64 t), .sl none n2 1 true (gl (rowsA none) K), .sl none n3 1 true (gl (rowsA none) V)], .i .i64 p] (.tup [.sl (some 0) none 4 true (gl blkF (pgs p t K V)), .i .i64 0]) := by
  refine impl_of (fn := Try.f39) tbl_ok (by kernel_rfl) (by kernel_rfl) rfl ⟨by simp [Try.f39], by decide⟩ rfl fun W0 => ?_
  repeat' first
    | (rw [fz_rows3]; conv => whnf)
    | apply WP.seq
    | (apply WP.region (E := eSplit) mixed tbl_ok; conv => whnf)
    | (apply WP.cond; conv => whnf)
    | (apply WP.skip; conv => whnf)
    | apply WP.block
    | (apply reg_and; (· kernel_rfl); conv => whnf)
    | (apply ex_and; (· with_reducible exact hF); conv => whnf)
    | (apply ex_eq; conv => whnf)
    | (apply gd_br)
    | (apply And.intro; (· first | with_reducible rfl | exact trivial | exact Or.inl ⟨rfl, rfl⟩ | exact Or.inr rfl | decide | omega | (apply Nat.le_of_ble_eq_true; rfl) | (dsimp only; omega) | (simp only [ints_len, gl_len, mp_len, List.length_cons, List.length_nil, List.length_drop, List.length_take]; omega)); conv => whnf)
    | apply br_not
    | (apply br_t; conv => whnf)
    | (apply br_no; (· omega); conv => whnf)
    | fail
  refine WP.loopM [8, 9, 10, 25] (fun x : N2 => [(8, .sl (some 0) none 4 true (gl blkF (mp x.1 (pg p t K V)))), (9, .i .i64 x.2)]) (fun x => x.2 = x.1 * p ∧ (x.2 < t.length + p)) (fun x => t.length - x.2) ((0, 0) : N2) ?_
  conv => whnf
  refine And.intro (And.intro ?_ ?_) (fun x hx => ?_)
  · exact ⟨(Nat.zero_mul p).symm, by show 0 < _; omega⟩
  · conv => whnf
    repeat' first
      | apply True.intro
      | (apply ptr_and; (· kernel_rfl); conv => whnf)
      | omega
      | (apply Or.inr; rfl)
      | (apply Or.inl; rfl)
      | (apply or_row; (· rfl); (· rfl); rfl)
      | (apply Or.inr; apply And.intro; (· rfl); rfl)
      | (apply And.intro <;> conv => whnf)
      | fail
  conv => whnf
  obtain ⟨i, a⟩ := x
  obtain ⟨h1, h2⟩ := hx
  dsimp only at h1 h2 ⊢
  by_cases hat : a < t.length
  · obtain ⟨b, hb⟩ : ∃ b, b = min (a + p) t.length := ⟨_, rfl⟩
    have hbi : (if (t.length : Int) < (a : Int) + (p : Int) then (t.length : Int) else (a : Int) + (p : Int)) = (b : Int) := by split <;> omega
    have hcut : (t.take ((b : Nat) : Int).toNat).drop (Int.toNat 0) = t.take b := by rw [Int.toNat_natCast]; rfl
    have hC := fun {nl : Option Bool} => clone1_ok (nl := nl) (l := t.take b) (by rw [List.length_take]; omega)
    have hW1 := fun {nl : Option Bool} => window_ok (nl := nl) a b hK (by omega) (fun r hr => by rw [hk r hr]; omega) (by omega)
    have hW2 := fun {nl : Option Bool} => window_ok (nl := nl) a b hV (by omega) (fun r hr => by rw [hv r hr]; omega) (by omega)
    have hpg : pg p t K V i = ⟨t.take b, (a : Int), winL a b K, winL a b V⟩ := by unfold pg; rw [← h1, ← hb]
    have hsn : gl blkF (mp i (pg p t K V)) ++ [blkF (pg p t K V i)] = gl blkF (mp (i + 1) (pg p t K V)) := by rw [mp_succ]; simp [gl]
    rw [hpg] at hsn
    have hml : (mp i (pg p t K V)).length = i := mp_len _ _
    have hia : i ≤ a := by rw [h1]; exact Nat.le_mul_of_pos_right _ (by omega)
    have hn1 : (i + 1) * p = a + p := by rw [Nat.succ_mul, ← h1]
    generalize t.take b = t2 at *
    generalize winL a b K = K2 at *
    generalize winL a b V = V2 at *
    generalize mp i (pg p t K V) = l1 at *
    repeat' first
      | (rw [fz_rows3]; conv => whnf)
      | apply WP.seq
      | (apply WP.region (E := eSplit) mixed tbl_ok; conv => whnf)
      | (apply WP.cond; conv => whnf)
      | (apply WP.skip; conv => whnf)
      | apply WP.block
      | (rw [hbi]; conv => whnf)
      | (rw [ints_cut, hcut]; conv => whnf)
      | (apply reg_and; (· kernel_rfl); conv => whnf)
      | (apply ex_and; (· with_reducible exact hC); conv => whnf)
      | (apply ex_and; (· with_reducible exact hW1); conv => whnf)
      | (apply ex_and; (· with_reducible exact hW2); conv => whnf)
      | (apply ex_ilen; conv => whnf)
      | (apply ex_i64; (· omega); conv => whnf)
      | (apply ex_eq; conv => whnf)
      | (apply And.intro; (· first | with_reducible rfl | exact trivial | exact Or.inl ⟨rfl, rfl⟩ | exact Or.inr rfl | decide | omega | (apply Nat.le_of_ble_eq_true; rfl) | (dsimp only; omega) | (simp only [ints_len, gl_len, mp_len, List.length_cons, List.length_nil, List.length_drop, List.length_take]; omega)); conv => whnf)
      | (apply br_yes; (· omega); conv => whnf)
      | fail
    refine Exists.intro ((i + 1, a + p) : N2) (And.intro (And.intro ⟨hn1.symm, by show a + p < _; omega⟩ (by show t.length - (a + p) < t.length - a; omega)) ?_)
    conv => whnf
    repeat' first
      | apply True.intro
      | (apply ptr_and; (· kernel_rfl); conv => whnf)
      | omega
      | (apply Or.inr; rfl)
      | (apply Or.inl; rfl)
      | (apply or_row; (· rfl); (· rfl); rfl)
      | (apply And.intro <;> conv => whnf)
      | (apply or_row; (· rfl); (· rfl); exact hsn)
      | fail
  · have e : pgs p t K V = mp i (pg p t K V) := by
      unfold pgs
      have : (t.length + p - 1) / p = i := by
        refine Nat.div_eq_of_lt_le (by omega) (by rw [Nat.succ_mul]; omega)
      rw [this]
    rw [e]
    repeat' first
      | apply WP.seq
      | (apply WP.region (E := eSplit) mixed tbl_ok; conv => whnf)
      | (apply WP.cond; conv => whnf)
      | (apply WP.ret; conv => whnf)
      | (apply WP.exit; conv => whnf)
      | (apply reg_and; (· kernel_rfl); conv => whnf)
      | (apply ex_ilen; conv => whnf)
      | (apply ex_eq; conv => whnf)
      | (apply nodup_and; (· exact of_decide_eq_true (by kernel_rfl)); conv => whnf)
      | (apply And.intro; (· first | with_reducible rfl | exact trivial | exact Or.inl ⟨rfl, rfl⟩ | exact Or.inr rfl | decide | omega | (apply Nat.le_of_ble_eq_true; rfl) | (dsimp only; omega) | (simp only [ints_len, gl_len, mp_len, List.length_cons, List.length_nil, List.length_drop, List.length_take]; omega)); conv => whnf)
      | (apply br_no; (· omega); conv => whnf)
      | fail
    repeat' first
      | apply True.intro
      | (apply Or.inr; rfl)
      | (apply or_row; (· rfl); (· rfl); rfl)
      | (apply And.intro <;> conv => whnf)
      | (apply Nat.le_of_ble_eq_true; rfl)
      | fail
end Go.Proofs.Ytjihjjbieeofdaa.T
namespace Go.Proofs.Ytjihjjbieeofdaa.T
set_option linter.unusedSimpArgs false
set_option linter.unusedVariables false
open Go
set_option linter.unusedVariables false
set_option maxHeartbeats 8000000
set_option maxRecDepth 100000
theorem nle_three {s s' : Nat} {nl2 n3 n4 n5 : Option Bool} (x y z : List AV) : NLe (.sl (some s) (some false) 1 true [.sl none nl2 1 true [.sl none n3 1 false x, .sl none n4 1 false y, .sl none n5 1 false z]]) (.sl (some s') none 1 true [.sl none none 1 true [.sl none none 1 false x, .sl none none 1 false y, .sl none none 1 false z]]) :=
  .sl (.inl rfl) rfl fun j e e' h1 h2 => by
    match j with
    | 0 =>
      cases h1; cases h2
      exact .fz (.inl rfl) rfl fun j e e' h1 h2 => by
        match j with
        | 0 => cases h1; cases h2; exact nle_rowF _
        | 1 => cases h1; cases h2; exact nle_rowF _
        | 2 => cases h1; cases h2; exact nle_rowF _
        | j + 3 => cases h1
    | j + 1 => cases h1
abbrev c11 : Cfg := ⟨9, 1, 1, 1, 1⟩
theorem c11_good : CfgG c11 9 1 1 1 1 1 := ⟨⟨rfl, by decide, by decide⟩, ⟨rfl, by decide, by decide⟩, ⟨rfl, by decide, by decide⟩, ⟨rfl, by decide, by decide⟩, ⟨rfl, by decide, by decide⟩, by decide⟩
def eAwake11 : Env := ⟨tbl, [24], [], [], [(0, []), (1, [1, 2999, 2000, 2001, 2002]), (2, [2, 3]), (3, [2, 3, 5]), (4, [2, 3, 5, 6, 7]), (5, [0])]⟩
theorem awake11_ok : Impl Try.prog 17 [] (.b true) := by
  have hF := fun {n1 n2 n3 : Option Bool} => fits9_ok (n1 := n1) (n2 := n2) (n3 := n3) (c := c11) (t := [5, 6, 7]) (K := [[[1], [2], [3]]]) (W := [[[4], [5], [6]]]) c11_good ⟨by decide, by decide, by decide, by decide, by decide⟩
  have hS : ∀ {n1 n2 n3 : Option Bool}, Impl Try.prog 39 [cfgA c11, .agg [.sl none n1 1 false [.i .i64 5, .i .i64 6, .i .i64 7], .sl none n2 1 true (gl (rowsA none) [[[1], [2], [3]]]), .sl none n3 1 true (gl (rowsA none) [[[4], [5], [6]]])], .i .i64 2] (.tup [.sl (some 0) none 4 true (gl blkF (pgs 2 [5, 6, 7] [[[1], [2], [3]]] [[[4], [5], [6]]])), .i .i64 0]) := fun {n1 n2 n3} => split_ok (n1 := n1) (n2 := n2) (n3 := n3) (c := c11) 2 (by decide) (t := [5, 6, 7]) (K := [[[1], [2], [3]]]) (V := [[[4], [5], [6]]]) (by decide) ⟨by decide, by decide⟩ ⟨by decide, by decide⟩ (by decide) (by decide) hF
  have hp : pgs 2 [5, 6, 7] [[[1], [2], [3]]] [[[4], [5], [6]]] = [⟨[5, 6], 0, [[[1], [2]]], [[[4], [5]]]⟩, ⟨[5, 6, 7], 2, [[[3]]], [[[6]]]⟩] := by rfl
  rw [hp] at hS
  have ha : (gl blkF [⟨[5, 6], 0, [[[1], [2]]], [[[4], [5]]]⟩, ⟨[5, 6, 7], 2, [[[3]]], [[[6]]]⟩])[Int.toNat 1]? = some (blkF ⟨[5, 6, 7], 2, [[[3]]], [[[6]]]⟩) := rfl
  have hR := read_none c11
  have hB : Impl Try.prog 40 [cfgA c11, blkF ⟨[5], 0, [[[1]]], [[[-1]]]⟩] (.tup [.s (bytesOf (ints .u8 (byts ⟨[5], 0, [[[1]]], [[[-1]]]⟩))), .i .i64 0]) := bytes_ok ⟨by decide, by decide, ⟨by decide, by decide⟩, ⟨by decide, by decide⟩⟩ (by rfl) (by decide) (by decide) (by decide) (by decide)
  have hby : bytesOf (ints .u8 (byts ⟨[5], 0, [[[1]]], [[[-1]]]⟩)) = ⟨#[1, 0, 5, 0, 0, 0, 1, 255, 255, 255, 255]⟩ := by rfl
  have he : ((bytesOf (ints .u8 (byts ⟨[5], 0, [[[1]]], [[[-1]]]⟩))).toList == (⟨#[1, 0, 5, 0, 0, 0, 1, 255, 255, 255, 255]⟩ : ByteArray).toList) = true := by rw [hby]; exact beq_self_eq_true _
  generalize bytesOf (ints .u8 (byts ⟨[5], 0, [[[1]]], [[[-1]]]⟩)) = s at *
  clear hF hp hby
  refine impl_of (fn := Try.f17) tbl_ok (by kernel_rfl) (by kernel_rfl) rfl ⟨by simp [Try.f17], by decide⟩ rfl fun W0 => ?_
  repeat' first
    | (rw [fz_rows3]; conv => whnf)
    | (rw [fz_blkF]; conv => whnf)
    | (refine WP.nrm (c := .region 2 _ _) 2001 (.sl (some 0) none 1 true (gl (rowsA none) [[[1], [2], [3]]])) ?_; (conv => whnf); refine And.intro (And.intro (nle_three _ _ _) True.intro) ?_; (conv => whnf); refine And.intro (by kernel_rfl) (And.intro (by kernel_rfl) ?_))
    | (refine WP.nrm (c := .region 2 _ _) 2002 (.sl (some 0) none 1 true (gl (rowsA none) [[[4], [5], [6]]])) ?_; (conv => whnf); refine And.intro (And.intro (nle_three _ _ _) True.intro) ?_; (conv => whnf); refine And.intro (by kernel_rfl) (And.intro (by kernel_rfl) ?_))
    | apply WP.seq
    | (apply WP.region (E := eAwake11) mixed tbl_ok; conv => whnf)
    | (apply WP.ret; conv => whnf)
    | (rw [he]; conv => whnf)
    | (apply ex_at ha; conv => whnf)
    | (apply reg_and; (· kernel_rfl); conv => whnf)
    | (apply ex_and; (· with_reducible exact small11_ok); conv => whnf)
    | (apply ex_and; (· with_reducible exact ref0_ok); conv => whnf)
    | (apply ex_and; (· with_reducible exact hS); conv => whnf)
    | (apply ex_and; (· with_reducible exact hR); conv => whnf)
    | (apply ex_and; (· with_reducible exact hB); conv => whnf)
    | (apply ex_ilen; conv => whnf)
    | (apply ex_glen; conv => whnf)
    | (apply ex_eq; conv => whnf)
    | (apply gd_br)
    | (apply And.intro; (· first | with_reducible rfl | exact trivial | exact Or.inl ⟨rfl, rfl⟩ | exact Or.inr rfl | decide | omega | (apply Nat.le_of_ble_eq_true; rfl) | (dsimp only; omega) | (simp only [ints_len, gl_len, mp_len, List.length_cons, List.length_nil, List.length_drop, List.length_take]; omega)); conv => whnf)
    | (apply br_t; conv => whnf)
    | fail
end Go.Proofs.Ytjihjjbieeofdaa.T

