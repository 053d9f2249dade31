/- Blocks: cut as the statements cut them, their form, their bytes, what bytes read as, and that what is written reads back and what is read is written back. Conditions: the bounds that each lemma names. -/
import Derived.Test.YtepbebelbcbciaaQx0
import Derived.Test.YtepbebelbcbciaaQx1
import Derived.Test.YtepbebelbcbciaaQx11
import Derived.Test.YtepbebelbcbciaaQx12
import Derived.Test.YtepbebelbcbciaaQx13
import Derived.Test.YtepbebelbcbciaaQx14
import Derived.Test.YtepbebelbcbciaaQx15
import Derived.Test.YtepbebelbcbciaaQx2
import Derived.Test.YtepbebelbcbciaaQx3
import Derived.Test.YtepbebelbcbciaaQx4
import Derived.Test.YtepbebelbcbciaaQx5
import Derived.Test.YtepbebelbcbciaaQx6
import Derived.Test.YtepbebelbcbciaaReadOne
import Derived.Test.YtepbebelbcbciaaReadTwo
import Derived.Test.YtepbebelbcbciaaCut
import Derived.Test.YtepbebelbcbciaaEv
import Derived.Test.YtepbebelbcbciaaFlow
import Derived.Test.YtepbebelbcbciaaYWords
namespace Go.Proofs.Ytepbebelbcbciaa.Q
open Go.RowKit Go.Proofs.YtepbebelbcbciaaW.PrintWords Go.Proofs.YtepbebelbcbciaaW.PrintLast Go.Proofs.YtepbebelbcbciaaW.PrintMore
set_option linter.unusedVariables false
set_option linter.unusedSimpArgs false

theorem few08_eq (l : List Int) (n : Nat) (h : l.length * 8 ≤ 140737488351232) : tillerlaw08_Few.f l (n : Int) = some (l.take n) := by
  unfold tillerlaw08_Few.f
  by_cases c : (l.length : Int) > (n : Int)
  · rw [if_pos c, if_pos (by omega), if_pos (by omega)]
    simp only [Option.bind_some, List.length_nil, List.nil_append, Int.toNat_natCast]
    rw [if_pos (by rw [List.length_take]; omega)]
  · rw [if_neg c]
    simp only [Option.bind_some, List.length_nil, List.nil_append]
    rw [if_pos (by omega), List.take_of_length_le (by omega)]
theorem rdLL_nat (l : List (List (List Int))) (i : Nat) (h : i < l.length) : rd_L3 l (i : Int) = l[i] := by
  unfold rd_L3
  simp [h]
theorem rdLLL_nat (l : List (List (List (List Int)))) (i : Nat) (h : i < l.length) : rd_L4 l (i : Int) = l[i] := by
  unfold rd_L4
  simp [h]
/-- At most five lists of at most 20 rows of at most 40 numbers. -/
def lists5 (l : List (List (List Int))) : List (List (List Int)) := (l.take 5).map fun r => few40 r 20
theorem lists_ev (l : List (List (List Int))) (h : ∀ r ∈ l, Rows32 r) : Ev (fun k => tillerlaw11_lists.f k l) (lists5 l) := by
  unfold tillerlaw11_lists.f
  exact ev_loop (min 5 l.length) (fun k i (s : List (List (List Int))) => tillerlaw11_lists.l0 k l s (i : Int)) (fun i => (l.take i).map fun r => few40 r 20) (lists5 l)
    (fun i hi ih => by
      have hi2 : i < l.length := by omega
      have hr := h _ (List.getElem_mem hi2)
      have hlen : ((l.take i).map fun r => few40 r 20).length = i := by rw [List.length_map, List.length_take]; omega
      simp only [map_next _ _ i hi2] at ih
      refine Ev.step (fun k => tillerlaw11_lists.l0.eq_2 ..) (ev_pos (by omega) (ev_pos (by omega) (ev_pos (by omega) ?_)))
      rw [rdLL_nat l i hi2, wrap_next hi (by omega)]
      exact Ev.bind (rows_ev l[i] 20 hr (by decide)) (ev_pos (by omega) ih))
    (by
      refine Ev.step (fun k => tillerlaw11_lists.l0.eq_2 ..) ?_
      have e : (l.take (min 5 l.length)).map (fun r => few40 r 20) = lists5 l := by
        unfold lists5
        congr 1
        rcases Nat.le_total 5 l.length with h | h
        · rw [Nat.min_eq_left h]
        · rw [Nat.min_eq_right h, List.take_length, List.take_of_length_le h]
      refine ev_if (fun _ => ev_neg (by omega) ?_) (fun _ => ?_)
      all_goals exact ev_eq (Ev.now _) e) 0 (by omega)
theorem told_ev (ts : List Int) (fr : Int) (ks vs : List (List (List Int))) (ht : ts.length * 8 ≤ 140737488351232) (hk : ∀ r ∈ ks, Rows32 r) (hv : ∀ r ∈ vs, Rows32 r) :
    Ev (fun k => tillerlaw11_Told.f k ts fr ks vs) (ts.take 140, fr, lists5 ks, lists5 vs) := by
  unfold tillerlaw11_Told.f
  exact ev_some (few08_eq ts 140 ht) (Ev.bind (lists_ev ks hk) (Ev.bind (lists_ev vs hv) (Ev.now _)))
theorem of_ev (ts : List Int) (fr : Int) (ks vs : List (List (List Int))) (ht : ts.length * 8 ≤ 140737488351232) (hk : ∀ r ∈ ks, Rows32 r) (hv : ∀ r ∈ vs, Rows32 r) :
    Ev (fun k => tillerlaw11_Of.f k ts fr ks vs) (ts.take 140, fr, lists5 ks, lists5 vs) := by
  unfold tillerlaw11_Of.f
  exact ev_some (few08_eq ts 140 ht) (Ev.bind (lists_ev ks hk) (Ev.bind (lists_ev vs hv) (Ev.now _)))

/-- A loop over a row that stops at the first element that isn't so. -/
theorem ev_each {α R : Type} (l : List α) (p : α → Bool) (g : Nat → Nat → Option R) (r bad : R)
    (hgood : ∀ i (h : i < l.length), p l[i] = true → Ev (fun k => g k (i + 1)) r → Ev (fun k => g k i) r)
    (hbad : ∀ i (h : i < l.length), p l[i] = false → Ev (fun k => g k i) bad)
    (hend : l.all p = true → Ev (fun k => g k l.length) r) (hno : l.all p = false → r = bad) : Ev (fun k => g k 0) r := by
  have key : ∀ d i, i + d = l.length → ((l.drop i).all p = true → Ev (fun k => g k l.length) r) → ((l.drop i).all p = false → r = bad) → Ev (fun k => g k i) r := by
    intro d
    induction d with
    | zero =>
      intro i hi h1 _
      have : i = l.length := by omega
      subst this
      exact h1 (by rw [List.drop_length]; rfl)
    | succ d ih =>
      intro i hi h1 h2
      have hi2 : i < l.length := by omega
      rw [List.drop_eq_getElem_cons hi2] at h1 h2
      simp only [List.all_cons] at h1 h2
      cases hp : p l[i] with
      | true =>
        rw [hp] at h1 h2
        exact hgood i hi2 hp (ih (i + 1) (by omega) (by simpa using h1) (by simpa using h2))
      | false =>
        rw [hp] at h2
        have e := h2 (by simp)
        subst e
        exact hbad i hi2 hp
  exact key l.length 0 (by omega) (by simpa using hend) (by simpa using hno)

/-! the form of a block -/
def okRow (d : Int) (r : List Int) : Bool := (r.length : Int) == d
def okList (n d : Int) (x : List (List Int)) : Bool := ((x.length : Int) == n) && x.all (okRow d)
def okShape (n d : Int) (l : List (List (List Int))) : Bool := l.all (okList n d)
def okTok (c0 t : Int) : Bool := !decide (t < 0) && !decide (t ≥ c0)
def sCheck (c0 c1 c4 : Int) (ts : List Int) (fr : Int) (ks vs : List (List (List Int))) : Int :=
  if fr < 0 ∨ fr ≥ (ts.length : Int) ∨ (ts.length : Int) > 128 ∨ (ts.length : Int) - fr > 16 ∨ (ks.length : Int) ≠ c4 ∨ (vs.length : Int) ≠ c4 then 4
  else if ts.all (okTok c0) = true then (if okShape ((ts.length : Int) - fr) c1 ks = true ∧ okShape ((ts.length : Int) - fr) c1 vs = true then 0 else 4) else 7
/-- No row is longer than a machine holds. -/
def Held (l : List (List (List Int))) : Prop := l.length ≤ 4611686018427387904 ∧ ∀ x ∈ l, x.length ≤ 4611686018427387904 ∧ ∀ r ∈ x, r.length ≤ 4611686018427387904
theorem shape_ev (l : List (List (List Int))) (n d : Int) (h : Held l) : Ev (fun k => tillerref11_shaped.f k l n d) (okShape n d l) := by
  unfold tillerref11_shaped.f
  refine ev_loop l.length (fun k i (b : Bool) => tillerref11_shaped.l0 k n d b l (l.length : Int) (i : Int)) (fun i => (l.take i).all (okList n d)) (okShape n d l)
    (fun i hi ih => ?_) ?_ 0 (by omega)
  · have hx := h.2 _ (List.getElem_mem hi)
    refine Ev.step (fun k => tillerref11_shaped.l0.eq_2 ..) (ev_pos (by omega) (ev_pos (by omega) (ev_pos (by omega) ?_)))
    rw [rdLL_nat l i hi]
    simp only [take_next l i hi, List.all_append, List.all_cons, List.all_nil, Bool.and_true] at ih
    have inner : ∀ b : Bool, (b && l[i].all (okRow d)) = ((l.take i).all (okList n d) && okList n d l[i]) → Ev (fun k => tillerref11_shaped.j1 k n d b l[i] l (l.length : Int) (i : Int)) (okShape n d l) := by
      intro b hb
      refine Ev.step (fun k => tillerref11_shaped.j1.eq_2 ..) ?_
      refine ev_loop l[i].length (fun k j (b : Bool) => tillerref11_shaped.l1 k n d b l (l.length : Int) (i : Int) l[i] (l[i].length : Int) (j : Int)) (fun j => b && (l[i].take j).all (okRow d)) (okShape n d l)
        (fun j hj jh => ?_) ?_ 0 (by omega) |> fun h => by simpa using h
      · refine Ev.step (fun k => tillerref11_shaped.l1.eq_2 ..) (ev_pos (by omega) (ev_pos (by omega) (ev_pos (by omega) ?_)))
        rw [rdL_nat l[i] j hj, wrap_next hj (by omega)]
        simp only [take_next l[i] j hj, List.all_append, List.all_cons, List.all_nil, Bool.and_true] at jh
        refine ev_if (fun hc => ?_) (fun hc => ?_)
        · have e : (b && ((l[i].take j).all (okRow d) && okRow d l[i][j])) = ((l[i][j].length : Int) == d) := by
            rw [← Bool.and_assoc, hc, Bool.true_and]
            rfl
          rw [e] at jh
          exact jh
        · have e : (b && ((l[i].take j).all (okRow d) && okRow d l[i][j])) = false := by
            rw [← Bool.and_assoc, Bool.eq_false_iff.mpr hc, Bool.false_and]
          rw [e] at jh
          exact jh
      · refine Ev.step (fun k => tillerref11_shaped.l1.eq_2 ..) (ev_neg (by omega) ?_)
        rw [List.take_length, hb, wrap_next hi (by have := h.1; omega)]
        exact ih
    refine ev_if (fun hc => inner _ ?_) (fun hc => inner _ ?_)
    · rw [hc]
      simp [okList]
    · rw [Bool.eq_false_iff.mpr hc]
      simp
  · refine Ev.step (fun k => tillerref11_shaped.l0.eq_2 ..) (ev_neg (by omega) ?_)
    rw [List.take_length]
    exact Ev.now _
theorem refCheck_ev (c0 c1 c2 c3 c4 : Int) (ts : List Int) (fr : Int) (ks vs : List (List (List Int))) (ht : ts.length ≤ 4611686018427387904) (hk : Held ks) (hv : Held vs) (hf : fr ≤ 9223372036854775807) :
    Ev (fun k => tillerref11_Check.f k c0 c1 c2 c3 c4 ts fr ks vs) (sCheck c0 c1 c4 ts fr ks vs) := by
  have bad : sCheck c0 c1 c4 ts fr ks vs = 4 → Ev (fun k => tillerref11_Check.j0 k true c0 c1 c2 c3 c4 ts fr ks vs) (sCheck c0 c1 c4 ts fr ks vs) := by
    intro e
    rw [e]
    exact Ev.step (fun k => tillerref11_Check.j0.eq_2 ..) (ev_pos rfl (Ev.now _))
  unfold tillerref11_Check.f
  refine ev_if (fun c => bad (if_pos (by omega))) (fun n1 => ev_if (fun c => bad (if_pos (by omega))) (fun n2 => ev_if (fun c => bad (if_pos (by omega))) (fun n3 => ?_)))
  have ew : wrap64 ((ts.length : Int) - fr) = (ts.length : Int) - fr := wrap64_id (by omega) (by omega)
  rw [ew]
  refine ev_if (fun c => bad (if_pos (by omega))) (fun n4 => ev_if (fun c5 => ?_) (fun c => bad (if_pos (by omega))))
  by_cases c6 : (vs.length : Int) = c4
  · have e6 : ((vs.length : Int) != c4) = false := bne_eq_false_iff_eq.mpr c6
    rw [e6]
    refine Ev.step (fun k => tillerref11_Check.j0.eq_2 ..) (ev_neg (by simp) ?_)
    unfold sCheck
    rw [if_neg (by omega)]
    refine ev_each ts (okTok c0) (fun k i => tillerref11_Check.l0 k ts (ts.length : Int) (i : Int) c0 c1 c2 c3 c4 ts fr ks vs) _ 7 (fun i hi hp ih => ?_) (fun i hi hp => ?_) (fun ha => ?_) (fun ha => ?_)
    · refine Ev.step (fun k => tillerref11_Check.l0.eq_2 ..) (ev_pos (by omega) (ev_pos (by omega) (ev_pos (by omega) ?_)))
      rw [rd_nat ts i hi]
      simp only [okTok, Bool.and_eq_true, Bool.not_eq_true', decide_eq_false_iff_not] at hp
      refine ev_neg hp.1 (ev_neg hp.2 ?_)
      rw [wrap_next hi (by omega)]
      exact ih
    · refine Ev.step (fun k => tillerref11_Check.l0.eq_2 ..) (ev_pos (by omega) (ev_pos (by omega) (ev_pos (by omega) ?_)))
      rw [rd_nat ts i hi]
      refine ev_if (fun _ => Ev.now _) (fun n1 => ev_if (fun _ => Ev.now _) (fun n2 => ?_))
      simp [okTok, n1, n2] at hp
    · refine Ev.step (fun k => tillerref11_Check.l0.eq_2 ..) (ev_neg (by omega) ?_)
      rw [if_pos ha, ew]
      refine Ev.bind (shape_ev ks _ c1 hk) (ev_if (fun h1 => Ev.bind (shape_ev vs _ c1 hv) (ev_if (fun h2 => ?_) (fun h2 => ?_))) (fun h1 => ?_))
      · rw [if_pos ⟨h1, h2⟩]
        exact Ev.now _
      · rw [if_neg (fun h => h2 h.2)]
        exact Ev.now _
      · rw [if_neg (fun h => h1 h.1)]
        exact Ev.now _
    · rw [if_neg (by rw [ha]; decide)]
  · have e6 : ((vs.length : Int) != c4) = true := bne_iff_ne.mpr c6
    rw [e6]
    exact bad (if_pos (by omega))
theorem blockCheck_ev (c0 c1 c2 c3 c4 : Int) (ts : List Int) (fr : Int) (ks vs : List (List (List Int))) (ht : ts.length ≤ 4611686018427387904) (hk : Held ks) (hv : Held vs) (hf : fr ≤ 9223372036854775807) :
    Ev (fun k => block_Check.f k c0 c1 c2 c3 c4 ts fr ks vs) (sCheck c0 c1 c4 ts fr ks vs) := by
  have bad : ∀ x : Int, sCheck c0 c1 c4 ts fr ks vs = 4 → Ev (fun k => block_Check.j0 k x true c0 c1 c2 c3 c4 ts fr ks vs) (sCheck c0 c1 c4 ts fr ks vs) := by
    intro x e
    rw [e]
    exact Ev.step (fun k => block_Check.j0.eq_2 ..) (ev_pos rfl (Ev.now _))
  unfold block_Check.f
  refine ev_if (fun c => bad _ (if_pos (by omega))) (fun n1 => ?_)
  have ew : wrap64 ((ts.length : Int) - fr) = (ts.length : Int) - fr := wrap64_id (by omega) (by omega)
  rw [ew]
  refine ev_if (fun c => bad _ (if_pos (by omega))) (fun n2 => ev_if (fun c => bad _ (if_pos (by omega))) (fun n3 => ev_if (fun c => bad _ (if_pos (by omega))) (fun n4 => ev_if (fun c5 => ?_) (fun c => bad _ (if_pos (by omega))))))
  by_cases c6 : (vs.length : Int) = c4
  · have e6 : ((vs.length : Int) != c4) = false := bne_eq_false_iff_eq.mpr c6
    rw [e6]
    refine Ev.step (fun k => block_Check.j0.eq_2 ..) (ev_neg (by simp) ?_)
    unfold sCheck
    rw [if_neg (by omega)]
    refine ev_each ts (okTok c0) (fun k i => block_Check.l0 k ((ts.length : Int) - fr) ts (ts.length : Int) (i : Int) c0 c1 c2 c3 c4 ts fr ks vs) _ 7 (fun i hi hp ih => ?_) (fun i hi hp => ?_) (fun ha => ?_) (fun ha => ?_)
    · refine Ev.step (fun k => block_Check.l0.eq_2 ..) (ev_pos (by omega) (ev_pos (by omega) (ev_pos (by omega) ?_)))
      rw [rd_nat ts i hi]
      simp only [okTok, Bool.and_eq_true, Bool.not_eq_true', decide_eq_false_iff_not] at hp
      refine ev_neg hp.1 (ev_neg hp.2 ?_)
      rw [wrap_next hi (by omega)]
      exact ih
    · refine Ev.step (fun k => block_Check.l0.eq_2 ..) (ev_pos (by omega) (ev_pos (by omega) (ev_pos (by omega) ?_)))
      rw [rd_nat ts i hi]
      refine ev_if (fun _ => Ev.now _) (fun n1 => ev_if (fun _ => Ev.now _) (fun n2 => ?_))
      simp [okTok, n1, n2] at hp
    · refine Ev.step (fun k => block_Check.l0.eq_2 ..) (ev_neg (by omega) ?_)
      rw [if_pos ha]
      refine ev_some (a := [ks, vs]) rfl ?_
      generalize (ts.length : Int) - fr = n
      generalize hside : ([ks, vs] : List (List (List (List Int)))) = side
      have hsm : ∀ x ∈ side, Held x := by
        subst hside
        intro x hx
        simp only [List.mem_cons, List.not_mem_nil, or_false] at hx
        rcases hx with rfl | rfl
        · exact hk
        · exact hv
      have hsl : side.length = 2 := by rw [← hside]; rfl
      refine ev_each side (okShape n c1) (fun k i => block_Check.l1 k n side (side.length : Int) (i : Int) c0 c1 c2 c3 c4) _ 4 ?_ ?_ ?_ ?_
      · intro i hi hp ih
        have hx := hsm _ (List.getElem_mem hi)
        refine Ev.step (fun k => block_Check.l1.eq_2 ..) (ev_pos (by omega) (ev_pos (by omega) (ev_pos (by omega) ?_)))
        rw [rdLLL_nat side i hi]
        refine ev_each side[i] (okList n c1) (fun k j => block_Check.l2 k n side (side.length : Int) (i : Int) side[i] (side[i].length : Int) (j : Int) c0 c1 c2 c3 c4) _ 4 ?_ ?_ ?_ ?_
        · intro j hj hq jh
          have hy := hx.2 _ (List.getElem_mem hj)
          simp only [okList, Bool.and_eq_true, beq_iff_eq] at hq
          refine Ev.step (fun k => block_Check.l2.eq_2 ..) (ev_pos (by omega) (ev_pos (by omega) (ev_pos (by omega) ?_)))
          rw [rdLL_nat side[i] j hj]
          refine ev_pos hq.1 ?_
          refine ev_each side[i][j] (okRow c1) (fun k m => block_Check.l3 k n side (side.length : Int) (i : Int) side[i] (side[i].length : Int) (j : Int) side[i][j] (side[i][j].length : Int) (m : Int) c0 c1 c2 c3 c4) _ 4 ?_ ?_ ?_ ?_
          · intro m hm hr mh
            refine Ev.step (fun k => block_Check.l3.eq_2 ..) (ev_pos (by omega) (ev_pos (by omega) (ev_pos (by omega) ?_)))
            rw [rdL_nat side[i][j] m hm, wrap_next hm (by have := hy.1; omega)]
            exact ev_pos (eq_of_beq hr) mh
          · intro m hm hr
            have := List.all_eq_true.1 hq.2 _ (List.getElem_mem hm)
            rw [this] at hr
            cases hr
          · intro _
            refine Ev.step (fun k => block_Check.l3.eq_2 ..) (ev_neg (by omega) ?_)
            rw [wrap_next hj (by have := hx.2 _ (List.getElem_mem hj); have := hx.1; have : side[i].length ≤ 4611686018427387904 := hx.1; omega)]
            exact jh
          · intro hr
            rw [hq.2] at hr
            cases hr
        · intro j hj hq
          have := List.all_eq_true.1 hp _ (List.getElem_mem hj)
          rw [this] at hq
          cases hq
        · intro _
          refine Ev.step (fun k => block_Check.l2.eq_2 ..) (ev_neg (by omega) ?_)
          rw [wrap_next hi (by omega)]
          exact ih
        · intro hr
          have : side[i].all (okList n c1) = true := hp
          rw [this] at hr
          cases hr
      · intro i hi hp
        have hx := hsm _ (List.getElem_mem hi)
        refine Ev.step (fun k => block_Check.l1.eq_2 ..) (ev_pos (by omega) (ev_pos (by omega) (ev_pos (by omega) ?_)))
        rw [rdLLL_nat side i hi]
        refine ev_each side[i] (okList n c1) (fun k j => block_Check.l2 k n side (side.length : Int) (i : Int) side[i] (side[i].length : Int) (j : Int) c0 c1 c2 c3 c4) _ 4 ?_ ?_ ?_ (fun _ => rfl)
        · intro j hj hq jh
          have hy := hx.2 _ (List.getElem_mem hj)
          simp only [okList, Bool.and_eq_true, beq_iff_eq] at hq
          refine Ev.step (fun k => block_Check.l2.eq_2 ..) (ev_pos (by omega) (ev_pos (by omega) (ev_pos (by omega) ?_)))
          rw [rdLL_nat side[i] j hj]
          refine ev_pos hq.1 ?_
          refine ev_each side[i][j] (okRow c1) (fun k m => block_Check.l3 k n side (side.length : Int) (i : Int) side[i] (side[i].length : Int) (j : Int) side[i][j] (side[i][j].length : Int) (m : Int) c0 c1 c2 c3 c4) _ 4 ?_ ?_ ?_ (fun _ => rfl)
          · intro m hm hr mh
            refine Ev.step (fun k => block_Check.l3.eq_2 ..) (ev_pos (by omega) (ev_pos (by omega) (ev_pos (by omega) ?_)))
            rw [rdL_nat side[i][j] m hm, wrap_next hm (by have := hy.1; omega)]
            exact ev_pos (eq_of_beq hr) mh
          · intro m hm hr
            have := List.all_eq_true.1 hq.2 _ (List.getElem_mem hm)
            rw [this] at hr
            cases hr
          · intro _
            refine Ev.step (fun k => block_Check.l3.eq_2 ..) (ev_neg (by omega) ?_)
            rw [wrap_next hj (by have := hx.2 _ (List.getElem_mem hj); have := hx.1; have : side[i].length ≤ 4611686018427387904 := hx.1; omega)]
            exact jh
        · intro j hj hq
          have hy := hx.2 _ (List.getElem_mem hj)
          refine Ev.step (fun k => block_Check.l2.eq_2 ..) (ev_pos (by omega) (ev_pos (by omega) (ev_pos (by omega) ?_)))
          rw [rdLL_nat side[i] j hj]
          refine ev_if (fun hc => ?_) (fun _ => Ev.now _)
          refine ev_each side[i][j] (okRow c1) (fun k m => block_Check.l3 k n side (side.length : Int) (i : Int) side[i] (side[i].length : Int) (j : Int) side[i][j] (side[i][j].length : Int) (m : Int) c0 c1 c2 c3 c4) _ 4 ?_ ?_ ?_ (fun _ => rfl)
          · intro m hm hr mh
            refine Ev.step (fun k => block_Check.l3.eq_2 ..) (ev_pos (by omega) (ev_pos (by omega) (ev_pos (by omega) ?_)))
            rw [rdL_nat side[i][j] m hm, wrap_next hm (by have := hy.1; omega)]
            exact ev_pos (eq_of_beq hr) mh
          · intro m hm hr
            refine Ev.step (fun k => block_Check.l3.eq_2 ..) (ev_pos (by omega) (ev_pos (by omega) (ev_pos (by omega) ?_)))
            rw [rdL_nat side[i][j] m hm]
            exact ev_neg (fun h => by rw [okRow, h] at hr; simp at hr) (Ev.now _)
          · intro ha
            simp [okList, hc, ha] at hq
        · intro ha
          have : side[i].all (okList n c1) = false := hp
          rw [this] at ha
          cases ha
      · intro hall
        refine Ev.step (fun k => block_Check.l1.eq_2 ..) (ev_neg (by omega) ?_)
        rw [← hside] at hall
        simp only [List.all_cons, List.all_nil, Bool.and_true, Bool.and_eq_true] at hall
        rw [if_pos hall]
        exact Ev.now _
      · intro hall
        rw [← hside] at hall
        simp only [List.all_cons, List.all_nil, Bool.and_true] at hall
        rw [if_neg (fun h => by rw [h.1, h.2] at hall; simp at hall)]
    · rw [if_neg (by rw [ha]; decide)]
  · have e6 : ((vs.length : Int) != c4) = true := bne_iff_ne.mpr c6
    rw [e6]
    exact bad _ (if_pos (by omega))

def enc4 (x : Int) : List Int := [x / 16777216 % 256, x / 65536 % 256, x / 256 % 256, x % 256]
def encRow (r : List Int) : List Int := r.flatMap enc4
def encRows (x : List (List Int)) : List Int := x.flatMap encRow
def encLists (l : List (List (List Int))) : List Int := l.flatMap encRows
def sBytes (ts : List Int) (fr : Int) (ks vs : List (List (List Int))) : List Int := [(ts.length : Int) % 256, fr % 256] ++ ts.map (fun t => t % 256) ++ encLists ks ++ encLists vs
theorem flatMap_next {α β : Type} (l : List α) (f : α → List β) (i : Nat) (h : i < l.length) : (l.take (i + 1)).flatMap f = (l.take i).flatMap f ++ f l[i] := by
  rw [take_next l i h, List.flatMap_append]
  simp
theorem flatMap_len {α β : Type} (f : α → List β) (B : Nat) : ∀ l : List α, (∀ x ∈ l, (f x).length ≤ B) → (l.flatMap f).length ≤ l.length * B
  | [], _ => by simp
  | a :: l, h => by
    have h1 := flatMap_len f B l (fun x hx => h x (List.mem_cons_of_mem _ hx))
    have h2 := h a List.mem_cons_self
    rw [List.flatMap_cons, List.length_append, List.length_cons, Nat.add_mul]
    omega
theorem flatMap_eq_len {α β : Type} (f : α → List β) (B : Nat) : ∀ l : List α, (∀ x ∈ l, (f x).length = B) → (l.flatMap f).length = l.length * B
  | [], _ => by simp
  | a :: l, h => by
    have h1 := flatMap_eq_len f B l (fun x hx => h x (List.mem_cons_of_mem _ hx))
    have h2 := h a List.mem_cons_self
    rw [List.flatMap_cons, List.length_append, List.length_cons, Nat.add_mul]
    omega
theorem encRow_length (r : List Int) : (encRow r).length = r.length * 4 := flatMap_eq_len enc4 4 r (fun _ _ => rfl)
/-- A few rows. -/
def Small3 (l : List (List (List Int))) : Prop := l.length ≤ 100 ∧ ∀ x ∈ l, x.length ≤ 100 ∧ ∀ r ∈ x, r.length ≤ 100
theorem Small3.held {l : List (List (List Int))} (h : Small3 l) : Held l := ⟨by have := h.1; omega, fun x hx => ⟨by have := (h.2 x hx).1; omega, fun r hr => by have := (h.2 x hx).2 r hr; omega⟩⟩
theorem encRows_len {x : List (List Int)} (h1 : x.length ≤ 100) (h : ∀ r ∈ x, r.length ≤ 100) : (encRows x).length ≤ 40000 := by
  have := flatMap_len encRow 400 x (fun r hr => by rw [encRow_length]; have := h r hr; omega)
  unfold encRows
  omega
theorem encLists_len {l : List (List (List Int))} (h : Small3 l) : (encLists l).length ≤ 4000000 := by
  have := flatMap_len encRows 40000 l (fun x hx => encRows_len (h.2 x hx).1 (h.2 x hx).2)
  have := h.1
  unfold encLists
  omega
theorem strOfNums_append (a b : List Int) : strOfNums (a ++ b) = strOfNums a ++ strOfNums b := by
  apply ByteArray.ext
  simp [strOfNums]
theorem bytesOf_range (s : ByteArray) : ∀ x ∈ bytesOf s, 0 ≤ x ∧ x ≤ 255 := by
  intro x hx
  unfold bytesOf at hx
  obtain ⟨b, _, rfl⟩ := List.mem_map.1 hx
  have := b.toNat_lt
  omega
theorem strOfNums_bytesOf (s : ByteArray) : strOfNums (bytesOf s) = s := by
  have e : ((fun n : Int => UInt8.ofNat n.toNat) ∘ fun b : UInt8 => (b.toNat : Int)) = id := by
    funext b
    simp
  apply ByteArray.ext
  simp only [strOfNums, bytesOf, List.map_map, e, List.map_id, Array.toArray_toList]
theorem bytesOf_strOfNums {l : List Int} (h : ∀ x ∈ l, 0 ≤ x ∧ x ≤ 255) : bytesOf (strOfNums l) = l := by
  unfold bytesOf strOfNums
  simp only [List.map_map]
  refine (List.map_congr_left fun x hx => ?_).trans (List.map_id l)
  have := h x hx
  simp only [Function.comp, id, UInt8.toNat_ofNat']
  omega
theorem bytesOf_inj {s t : ByteArray} (h : bytesOf s = bytesOf t) : s = t := by rw [← strOfNums_bytesOf s, h, strOfNums_bytesOf]
theorem enc4_range (x : Int) : ∀ b ∈ enc4 x, 0 ≤ b ∧ b ≤ 255 := by
  intro b hb
  simp only [enc4, List.mem_cons, List.not_mem_nil, or_false] at hb
  omega
theorem flatMap_range {α : Type} {f : α → List Int} (h : ∀ x, ∀ b ∈ f x, 0 ≤ b ∧ b ≤ 255) (l : List α) : ∀ b ∈ l.flatMap f, 0 ≤ b ∧ b ≤ 255 := by
  intro b hb
  obtain ⟨x, _, hx⟩ := List.mem_flatMap.1 hb
  exact h x b hx
theorem encLists_range (l : List (List (List Int))) : ∀ b ∈ encLists l, 0 ≤ b ∧ b ≤ 255 := flatMap_range (flatMap_range (flatMap_range enc4_range)) l
theorem sBytes_range (ts : List Int) (fr : Int) (ks vs : List (List (List Int))) : ∀ b ∈ sBytes ts fr ks vs, 0 ≤ b ∧ b ≤ 255 := by
  intro b hb
  simp only [sBytes, List.mem_append, List.mem_cons, List.not_mem_nil, or_false, List.mem_map] at hb
  rcases hb with ((h | ⟨t, _, rfl⟩) | h) | h
  · omega
  · omega
  · exact encLists_range _ b h
  · exact encLists_range _ b h

/-! the document's bytes -/
theorem numbers_ev (l : List (List (List Int))) (h : Small3 l) : Ev (fun k => tillerref11_numbers.f k l) (strOfNums (encLists l)) := by
  unfold tillerref11_numbers.f
  have hl := h.1
  have e0 : (⟨#[]⟩ : ByteArray) = strOfNums [] := rfl
  rw [e0]
  refine ev_loop l.length (fun k i (b : List Int) => tillerref11_numbers.l0 k (strOfNums b) l (l.length : Int) (i : Int)) (fun i => encLists (l.take i)) (strOfNums (encLists l))
    (fun i hi ih => ?_) ?_ 0 (by omega)
  · have hx := h.2 _ (List.getElem_mem hi)
    have b1 : (encLists (l.take i)).length ≤ 4000000 := encLists_len ⟨by rw [List.length_take]; omega, fun x hx => h.2 x (List.mem_of_mem_take hx)⟩
    refine Ev.step (fun k => tillerref11_numbers.l0.eq_2 ..) (ev_pos (by omega) (ev_pos (by omega) (ev_pos (by omega) ?_)))
    rw [rdLL_nat l i hi]
    have e1 : encLists (l.take (i + 1)) = encLists (l.take i) ++ encRows l[i] := flatMap_next l encRows i hi
    rw [e1] at ih
    generalize encLists (l.take i) = acc at *
    refine ev_loop l[i].length (fun k j (b : List Int) => tillerref11_numbers.l1 k (strOfNums b) l (l.length : Int) (i : Int) l[i] (l[i].length : Int) (j : Int)) (fun j => acc ++ encRows (l[i].take j)) (strOfNums (encLists l))
      (fun j hj jh => ?_) ?_ 0 (by omega) |> fun h => by simpa [encRows] using h
    · have hy := hx.2 _ (List.getElem_mem hj)
      have b2 : (encRows (l[i].take j)).length ≤ 40000 := encRows_len (by rw [List.length_take]; omega) (fun r hr => hx.2 r (List.mem_of_mem_take hr))
      refine Ev.step (fun k => tillerref11_numbers.l1.eq_2 ..) (ev_pos (by omega) (ev_pos (by omega) (ev_pos (by omega) ?_)))
      rw [rdL_nat l[i] j hj]
      have e2 : encRows (l[i].take (j + 1)) = encRows (l[i].take j) ++ encRow l[i][j] := flatMap_next l[i] encRow j hj
      rw [e2, ← List.append_assoc] at jh
      have b3 : (acc ++ encRows (l[i].take j)).length ≤ 5000000 := by rw [List.length_append]; omega
      generalize acc ++ encRows (l[i].take j) = acc2 at *
      refine ev_loop l[i][j].length (fun k m (b : List Int) => tillerref11_numbers.l2 k (strOfNums b) l (l.length : Int) (i : Int) l[i] (l[i].length : Int) (j : Int) l[i][j] (l[i][j].length : Int) (m : Int)) (fun m => acc2 ++ encRow (l[i][j].take m)) (strOfNums (encLists l))
        (fun m hm mh => ?_) ?_ 0 (by omega) |> fun h => by simpa [encRow] using h
      · have b4 : (encRow (l[i][j].take m)).length ≤ 400 := by rw [encRow_length, List.length_take]; omega
        refine Ev.step (fun k => tillerref11_numbers.l2.eq_2 ..) (ev_pos (by omega) (ev_pos (by omega) (ev_pos (by omega) ?_)))
        rw [rd_nat l[i][j] m hm]
        have e3 : encRow (l[i][j].take (m + 1)) = encRow (l[i][j].take m) ++ enc4 l[i][j][m] := flatMap_next l[i][j] enc4 m hm
        rw [e3, ← List.append_assoc] at mh
        generalize l[i][j][m] = x at mh ⊢
        refine ev_some (a := enc4 x) ?_ ?_
        · refine congrArg some ?_
          have h1 : x % 4294967296 / 16777216 % 256 = x / 16777216 % 256 := by omega
          have h2 : x % 4294967296 / 65536 % 256 = x / 65536 % 256 := by omega
          have h3 : x % 4294967296 / 256 % 256 = x / 256 % 256 := by omega
          have h4 : x % 4294967296 % 256 = x % 256 := by omega
          rw [h1, h2, h3, h4]
          rfl
        · refine ev_pos (by rw [strOfNums_size, strOfNums_size, List.length_append]; simp only [enc4, List.length_cons, List.length_nil]; omega) ?_
          rw [wrap_next hm (by omega), ← strOfNums_append]
          exact mh
      · refine Ev.step (fun k => tillerref11_numbers.l2.eq_2 ..) (ev_neg (by omega) ?_)
        rw [wrap_next hj (by omega), List.take_length]
        exact jh
    · refine Ev.step (fun k => tillerref11_numbers.l1.eq_2 ..) (ev_neg (by omega) ?_)
      rw [wrap_next hi (by omega), List.take_length]
      exact ih
  · refine Ev.step (fun k => tillerref11_numbers.l0.eq_2 ..) (ev_neg (by omega) ?_)
    rw [List.take_length]
    exact Ev.now _
theorem refBytes_ev (ts : List Int) (fr : Int) (ks vs : List (List (List Int))) (ht : ts.length ≤ 1000) (hk : Small3 ks) (hv : Small3 vs) :
    Ev (fun k => tillerref11_Bytes.f k ts fr ks vs) (strOfNums (sBytes ts fr ks vs)) := by
  unfold tillerref11_Bytes.f
  have h0 : ([(ts.length : Int) % 256, fr % 256] : List Int) = [(ts.length : Int) % 256, fr % 256] ++ (ts.take 0).map (fun t => t % 256) := by simp
  rw [h0]
  refine ev_loop ts.length (fun k i (b : List Int) => tillerref11_Bytes.l0 k (strOfNums b) ts (ts.length : Int) (i : Int) ts fr ks vs) (fun i => [(ts.length : Int) % 256, fr % 256] ++ (ts.take i).map (fun t => t % 256)) _
    (fun i hi ih => ?_) ?_ 0 (by omega)
  · have b1 : ((ts.take i).map (fun t => t % 256)).length = i := by rw [List.length_map, List.length_take]; omega
    refine Ev.step (fun k => tillerref11_Bytes.l0.eq_2 ..) (ev_pos (by omega) (ev_pos (by omega) (ev_pos (by omega) ?_)))
    rw [rd_nat ts i hi]
    refine ev_some rfl (ev_pos ?_ ?_)
    · rw [strOfNums_size, strOfNums_size, List.length_append, b1]
      simp only [List.length_cons, List.length_nil]
      omega
    · rw [wrap_next hi (by omega), ← strOfNums_append, List.append_assoc, ← map_next ts (fun t => t % 256) i hi]
      exact ih
  · refine Ev.step (fun k => tillerref11_Bytes.l0.eq_2 ..) (ev_neg (by omega) ?_)
    rw [List.take_length]
    have bk := encLists_len hk
    have bv := encLists_len hv
    have bt_ : ([(ts.length : Int) % 256, fr % 256] ++ ts.map (fun t => t % 256)).length ≤ 1002 := by
      rw [List.length_append, List.length_map]
      simp only [List.length_cons, List.length_nil]
      omega
    refine Ev.bind (numbers_ev ks hk) (ev_pos ?_ (Ev.bind (numbers_ev vs hv) (ev_pos ?_ ?_)))
    · rw [strOfNums_size, strOfNums_size]
      omega
    · rw [← strOfNums_append, strOfNums_size, strOfNums_size, List.length_append]
      omega
    · rw [← strOfNums_append, ← strOfNums_append]
      exact Ev.now _

/-! the program's bytes -/
theorem flatten_next {α : Type} (l : List (List α)) (i : Nat) (h : i < l.length) : (l.take (i + 1)).flatten = (l.take i).flatten ++ l[i] := by
  rw [take_next l i h, List.flatten_append]
  simp
theorem flatten_len {α : Type} (B : Nat) (l : List (List α)) (h : ∀ x ∈ l, x.length ≤ B) : l.flatten.length ≤ l.length * B := by
  have := flatMap_len id B l h
  rwa [List.flatMap_id] at this
theorem flatten_flatMap {α β : Type} (f : α → List β) (l : List (List α)) : l.flatten.flatMap f = l.flatMap fun x => x.flatMap f := by
  induction l with
  | nil => rfl
  | cons a l ih => rw [List.flatten_cons, List.flatMap_append, List.flatMap_cons, ih]
theorem concat2_ev (l : List (List (List Int))) (h : Small3 l) : Ev (fun k => api_Num_38.f k l) l.flatten := by
  unfold api_Num_38.f
  have hl := h.1
  have bound : ∀ i, ((l.take i).flatten).length ≤ 10000 := fun i => by
    have := flatten_len 100 (l.take i) (fun x hx => (h.2 x (List.mem_of_mem_take hx)).1)
    rw [List.length_take] at this
    omega
  refine ev_loop l.length (fun k i (n : Int) => api_Num_38.l0 k l n l (l.length : Int) (i : Int)) (fun i => (((l.take i).flatten).length : Int)) l.flatten
    (fun i hi ih => ?_) ?_ 0 (by omega)
  · refine Ev.step (fun k => api_Num_38.l0.eq_2 ..) (ev_pos (by omega) (ev_pos (by omega) (ev_pos (by omega) ?_)))
    rw [rdLL_nat l i hi]
    have b1 := bound (i + 1)
    rw [flatten_next l i hi, List.length_append] at ih b1
    have e : wrap64 ((((l.take i).flatten).length : Int) + (l[i].length : Int)) = ((((l.take i).flatten).length + l[i].length : Nat) : Int) := by unfold wrap64; omega
    rw [e, wrap_next hi (by omega)]
    exact ev_neg (by omega) ih
  · refine Ev.step (fun k => api_Num_38.l0.eq_2 ..) (ev_neg (by omega) ?_)
    rw [List.take_length]
    have b1 := bound l.length
    rw [List.take_length] at b1
    refine ev_some (a := []) (by unfold api_Num_65.f; rw [if_pos ⟨rfl, by omega, by omega⟩]) ?_
    refine ev_loop l.length (fun k i (b : List (List Int)) => api_Num_38.l1 k b l (l.length : Int) (i : Int)) (fun i => (l.take i).flatten) l.flatten
      (fun i hi ih => ?_) ?_ 0 (by omega)
    · refine Ev.step (fun k => api_Num_38.l1.eq_2 ..) (ev_pos (by omega) (ev_pos (by omega) (ev_pos (by omega) ?_)))
      have b2 := bound (i + 1)
      rw [flatten_next l i hi] at ih b2
      rw [List.length_append] at b2
      rw [rdLL_nat l i hi, wrap_next hi (by omega)]
      exact ev_pos (by omega) ih
    · refine Ev.step (fun k => api_Num_38.l1.eq_2 ..) (ev_neg (by omega) ?_)
      rw [List.take_length]
      exact Ev.now _
theorem concat1_ev (l : List (List Int)) (h : l.length ≤ 10000) (hr : ∀ r ∈ l, r.length ≤ 100) : Ev (fun k => api_Num_37.f k l) l.flatten := by
  unfold api_Num_37.f
  have bound : ∀ i, ((l.take i).flatten).length ≤ 1000000 := fun i => by
    have := flatten_len 100 (l.take i) (fun x hx => hr x (List.mem_of_mem_take hx))
    rw [List.length_take] at this
    omega
  refine ev_loop l.length (fun k i (n : Int) => api_Num_37.l0 k l n l (l.length : Int) (i : Int)) (fun i => (((l.take i).flatten).length : Int)) l.flatten
    (fun i hi ih => ?_) ?_ 0 (by omega)
  · refine Ev.step (fun k => api_Num_37.l0.eq_2 ..) (ev_pos (by omega) (ev_pos (by omega) (ev_pos (by omega) ?_)))
    rw [rdL_nat l i hi]
    have b1 := bound (i + 1)
    rw [flatten_next l i hi, List.length_append] at ih b1
    have e : wrap64 ((((l.take i).flatten).length : Int) + (l[i].length : Int)) = ((((l.take i).flatten).length + l[i].length : Nat) : Int) := by unfold wrap64; omega
    rw [e, wrap_next hi (by omega)]
    exact ev_neg (by omega) ih
  · refine Ev.step (fun k => api_Num_37.l0.eq_2 ..) (ev_neg (by omega) ?_)
    rw [List.take_length]
    have b1 := bound l.length
    rw [List.take_length] at b1
    refine ev_some (a := []) (by unfold api_Num_64.f; rw [if_pos ⟨rfl, by omega, by omega⟩]) ?_
    refine ev_loop l.length (fun k i (b : List Int) => api_Num_37.l1 k b l (l.length : Int) (i : Int)) (fun i => (l.take i).flatten) l.flatten
      (fun i hi ih => ?_) ?_ 0 (by omega)
    · refine Ev.step (fun k => api_Num_37.l1.eq_2 ..) (ev_pos (by omega) (ev_pos (by omega) (ev_pos (by omega) ?_)))
      have b2 := bound (i + 1)
      rw [flatten_next l i hi] at ih b2
      rw [List.length_append] at b2
      rw [rdL_nat l i hi, wrap_next hi (by omega)]
      exact ev_pos (by omega) ih
    · refine Ev.step (fun k => api_Num_37.l1.eq_2 ..) (ev_neg (by omega) ?_)
      rw [List.take_length]
      exact Ev.now _
theorem bytesRest_ev (acc : List Int) (ha : acc.length ≤ 2000) (ks vs : List (List (List Int))) (hk : Small3 ks) (hv : Small3 vs) :
    Ev (fun k => block_Bytes.l1 k acc [ks, vs] (([ks, vs] : List (List (List (List Int)))).length : Int) 0) (strOfNums (acc ++ encLists ks ++ encLists vs), 0) := by
  have e : acc ++ encLists ks ++ encLists vs = acc ++ ([ks, vs] : List (List (List (List Int)))).flatMap encLists := by simp
  rw [e]
  generalize hside : ([ks, vs] : List (List (List (List Int)))) = side
  have hsm : ∀ x ∈ side, Small3 x := by
    subst hside
    intro x hx
    simp only [List.mem_cons, List.not_mem_nil, or_false] at hx
    rcases hx with rfl | rfl
    · exact hk
    · exact hv
  have hsl : side.length = 2 := by rw [← hside]; rfl
  refine ev_loop side.length (fun k i (b : List Int) => block_Bytes.l1 k b side (side.length : Int) (i : Int)) (fun i => acc ++ (side.take i).flatMap encLists) _
    (fun i hi ih => ?_) ?_ 0 (by omega) |> fun h => by simpa using h
  · have hx := hsm _ (List.getElem_mem hi)
    refine Ev.step (fun k => block_Bytes.l1.eq_2 ..) (ev_pos (by omega) (ev_pos (by omega) (ev_pos (by omega) ?_)))
    rw [rdLLL_nat side i hi]
    have b2 : (acc ++ (side.take i).flatMap encLists).length ≤ 9000000 := by
      have := flatMap_len encLists 4000000 (side.take i) (fun x hx => encLists_len (hsm x (List.mem_of_mem_take hx)))
      rw [List.length_take] at this
      rw [List.length_append]
      omega
    rw [flatMap_next side encLists i hi, ← List.append_assoc] at ih
    generalize acc ++ (side.take i).flatMap encLists = acc2 at *
    have hmem : ∀ r ∈ side[i].flatten, r.length ≤ 100 := by
      intro r hr
      obtain ⟨x, hx1, hx2⟩ := List.mem_flatten.1 hr
      exact (hx.2 x hx1).2 r hx2
    have hfl := flatten_len 100 side[i] (fun x h => (hx.2 x h).1)
    have hfl0 := hx.1
    refine Ev.bind (concat2_ev side[i] hx) (Ev.bind (concat1_ev side[i].flatten (by omega) hmem) ?_)
    have efl : encLists side[i] = side[i].flatten.flatten.flatMap enc4 := by
      rw [flatten_flatMap, flatten_flatMap]
      rfl
    rw [efl] at ih
    have hff := flatten_len 100 side[i].flatten hmem
    have bn : side[i].flatten.flatten.length ≤ 1000000 := by omega
    generalize side[i].flatten.flatten = ns at *
    refine ev_loop ns.length (fun k j (b : List Int) => block_Bytes.l2 k b side (side.length : Int) (i : Int) ns (ns.length : Int) (j : Int)) (fun j => acc2 ++ (ns.take j).flatMap enc4) _
      (fun j hj jh => ?_) ?_ 0 (by omega) |> fun h => by simpa using h
    · have b3 : ((ns.take j).flatMap enc4).length = j * 4 := by
        rw [flatMap_eq_len enc4 4 _ (fun _ _ => rfl), List.length_take]
        omega
      refine Ev.step (fun k => block_Bytes.l2.eq_2 ..) (ev_pos (by omega) (ev_pos (by omega) (ev_pos (by omega) ?_)))
      rw [rd_nat ns j hj]
      rw [flatMap_next ns enc4 j hj, ← List.append_assoc] at jh
      refine ev_some (a := enc4 ns[j]) rfl (ev_pos ?_ ?_)
      · rw [List.length_append, b3]
        simp only [enc4, List.length_cons, List.length_nil]
        omega
      · rw [wrap_next hj (by omega)]
        exact jh
    · refine Ev.step (fun k => block_Bytes.l2.eq_2 ..) (ev_neg (by omega) ?_)
      rw [wrap_next hi (by omega), List.take_length]
      exact ih
  · refine Ev.step (fun k => block_Bytes.l1.eq_2 ..) (ev_neg (by omega) ?_)
    rw [List.take_length]
    exact Ev.now _
theorem blockBytes_ev (c0 c1 c2 c3 c4 : Int) (ts : List Int) (fr : Int) (ks vs : List (List (List Int))) (ht : ts.length ≤ 1000) (hk : Small3 ks) (hv : Small3 vs) (hf : fr ≤ 9223372036854775807) :
    Ev (fun k => block_Bytes.f k c0 c1 c2 c3 c4 ts fr ks vs) (if sCheck c0 c1 c4 ts fr ks vs = 0 then strOfNums (sBytes ts fr ks vs) else ⟨#[]⟩, sCheck c0 c1 c4 ts fr ks vs) := by
  unfold block_Bytes.f
  refine Ev.bind (blockCheck_ev c0 c1 c2 c3 c4 ts fr ks vs (by omega) hk.held hv.held hf) ?_
  refine ev_if (fun h => ?_) (fun h => ?_)
  · rw [if_pos h, h]
    have h0 : ([(ts.length : Int) % 256, fr % 256] : List Int) = [(ts.length : Int) % 256, fr % 256] ++ (ts.take 0).map (fun t => t % 256) := by simp
    rw [h0]
    refine ev_loop ts.length (fun k i (b : List Int) => block_Bytes.l0 k b ts (ts.length : Int) (i : Int) ts fr ks vs) (fun i => [(ts.length : Int) % 256, fr % 256] ++ (ts.take i).map (fun t => t % 256)) _
      (fun i hi ih => ?_) ?_ 0 (by omega)
    · have b1 : ((ts.take i).map (fun t => t % 256)).length = i := by rw [List.length_map, List.length_take]; omega
      refine Ev.step (fun k => block_Bytes.l0.eq_2 ..) (ev_pos (by omega) (ev_pos (by omega) (ev_pos (by omega) ?_)))
      rw [rd_nat ts i hi]
      refine ev_pos ?_ ?_
      · rw [List.length_append, b1]
        simp only [List.length_cons, List.length_nil]
        omega
      · rw [wrap_next hi (by omega), List.append_assoc, ← map_next ts (fun t => t % 256) i hi]
        exact ih
    · refine Ev.step (fun k => block_Bytes.l0.eq_2 ..) (ev_neg (by omega) ?_)
      rw [List.take_length]
      refine ev_some (a := [ks, vs]) rfl ?_
      exact bytesRest_ev _ (by rw [List.length_append, List.length_map]; simp only [List.length_cons, List.length_nil]; omega) ks vs hk hv
  · rw [if_neg h]
    exact Ev.now _

theorem bytesOf_extract (s : ByteArray) (a : Nat) : bytesOf (s.extract a s.size) = (bytesOf s).drop a := by
  have e : s.size = (bytesOf s).length := (bytesOf_length s).symm
  unfold bytesOf
  rw [ByteArray.data_extract, Array.toList_extract, List.extract_eq_take_drop, ← List.map_drop]
  congr 1
  rw [List.take_of_length_le]
  rw [List.length_drop, Array.length_toList]
  show s.data.size - a ≤ s.data.size - a
  omega
theorem bytesOf_take (s : ByteArray) (n : Nat) : bytesOf (s.extract 0 n) = (bytesOf s).take n := by
  unfold bytesOf
  rw [ByteArray.data_extract, Array.toList_extract, List.extract_eq_take_drop, ← List.map_take]
  simp
theorem extract_size (s : ByteArray) (a : Nat) : (s.extract a s.size).size = s.size - a := by
  rw [← bytesOf_length, bytesOf_extract, List.length_drop, bytesOf_length]
theorem bt_cons (s : ByteArray) (a : Int) (t : List Int) (i : Nat) (h : bytesOf s = a :: t) : bt s ((i + 1 : Nat) : Int) = rd t (i : Int) := by
  rw [← rd_bytesOf, h]
  unfold rd
  simp
theorem bt_zero (s : ByteArray) (a : Int) (t : List Int) (h : bytesOf s = a :: t) : bt s 0 = a := by
  rw [← rd_bytesOf, h]
  unfold rd
  simp
/-- The first number of bytes, and the other bytes. -/
def num4 (s : ByteArray) : Int × ByteArray := (wrap32 (16777216 * bt s 0 + 65536 * bt s 1 + 256 * bt s 2 + bt s 3), s.extract 4 s.size)
def many {α : Type} : Nat → (ByteArray → α × ByteArray) → ByteArray → List α × ByteArray
  | 0, _, s => ([], s)
  | n + 1, f, s => ((f s).1 :: (many n f (f s).2).1, (many n f (f s).2).2)
def takeLists (L P D : Nat) : ByteArray → List (List (List Int)) × ByteArray := many L (many P (many D num4))
theorem many_length {α : Type} (f : ByteArray → α × ByteArray) : ∀ n s, (many n f s).1.length = n
  | 0, _ => rfl
  | n + 1, s => by
    unfold many
    rw [List.length_cons, many_length f n]
theorem many_all {α : Type} (f : ByteArray → α × ByteArray) (q : α → Prop) (h : ∀ s, q (f s).1) : ∀ n s, ∀ x ∈ (many n f s).1, q x
  | 0, _ => fun x hx => by cases hx
  | n + 1, s => fun x hx => by
    unfold many at hx
    rcases List.mem_cons.1 hx with rfl | hx
    · exact h s
    · exact many_all f q h n _ x hx
theorem num4_size (s : ByteArray) : (num4 s).2.size = s.size - 4 := extract_size s 4
theorem many_size {α : Type} (f : ByteArray → α × ByteArray) (z : Nat) (h : ∀ s, (f s).2.size = s.size - z) : ∀ n s, (many n f s).2.size = s.size - n * z
  | 0, s => by
    show s.size = s.size - 0 * z
    omega
  | n + 1, s => by
    show (many n f (f s).2).2.size = _
    rw [many_size f z h n, h, Nat.add_mul]
    omega
theorem row_size (D : Nat) (s : ByteArray) : (many D num4 s).2.size = s.size - D * 4 := many_size num4 4 num4_size D s
theorem rows_size (P D : Nat) (s : ByteArray) : (many P (many D num4) s).2.size = s.size - P * (D * 4) := many_size _ _ (row_size D) P s
theorem lists_size (L P D : Nat) (s : ByteArray) : (takeLists L P D s).2.size = s.size - L * (P * (D * 4)) := many_size _ _ (rows_size P D) L s
theorem lists_shape (L P D : Nat) (s : ByteArray) : (takeLists L P D s).1.length = L ∧ ∀ x ∈ (takeLists L P D s).1, x.length = P ∧ ∀ r ∈ x, r.length = D :=
  ⟨many_length _ L s, many_all _ (fun x : List (List Int) => x.length = P ∧ ∀ r ∈ x, r.length = D) (fun s => ⟨many_length _ P s, many_all _ (fun r : List Int => r.length = D) (fun s => many_length _ D s) P s⟩) L s⟩

/-! the program's reader -/
theorem wraps_u32 (n : Int) (h0 : 0 ≤ n) (h1 : n < 2 ^ 32) : IntKind.u32.wrap n = n := by rw [IntKind.wrap_u32]; omega
theorem num_or {a b c d : Int} (ha : 0 ≤ a ∧ a ≤ 255) (hb : 0 ≤ b ∧ b ≤ 255) (hc : 0 ≤ c ∧ c ≤ 255) (hd : 0 ≤ d ∧ d ≤ 255) :
    Go.bits .or .u32 (Go.bits .or .u32 (Go.bits .or .u32 ((a % 4294967296 * 16777216) % 4294967296) ((b % 4294967296 * 65536) % 4294967296)) ((c % 4294967296 * 256) % 4294967296)) (d % 4294967296) = 16777216 * a + 65536 * b + 256 * c + d := by
  have e1 : (a % 4294967296 * 16777216) % 4294967296 = 16777216 * a := by omega
  have e2 : (b % 4294967296 * 65536) % 4294967296 = 65536 * b := by omega
  have e3 : (c % 4294967296 * 256) % 4294967296 = 256 * c := by omega
  have e4 : d % 4294967296 = d := by omega
  rw [e1, e2, e3, e4]
  rw [bits_join .u32 32 (by decide) wraps_u32 24 (16777216 * a) (65536 * b) (by omega) (by omega) (by omega) (by omega) (by omega) (by omega)]
  rw [bits_join .u32 32 (by decide) wraps_u32 16 (16777216 * a + 65536 * b) (256 * c) (by omega) (by omega) (by omega) (by omega) (by omega) (by omega)]
  rw [bits_join .u32 32 (by decide) wraps_u32 8 (16777216 * a + 65536 * b + 256 * c) d (by omega) (by omega) (by omega) (by omega) (by omega) (by omega)]
section
variable {c0 c1 c2 c3 c4 : Int} {r : List (List (List Int)) × ByteArray}
theorem readRow_ev (x4 : List (List (List Int))) (x5 : List (List Int)) (x8 x9 x11 x12 x2 : Int) (h5 : x5.length ≤ 1000) (hD : c1.toNat ≤ 1000) :
    ∀ (d i : Nat) (acc : List Int) (s : ByteArray), c1.toNat = i + d → acc.length = i → d * 4 ≤ s.size → Ev (fun k => block_Read_1.l1 k x4 (x5 ++ [acc ++ (many d num4 s).1]) x8 x9 x11 (wrap64 (x12 + 1)) c0 c1 c2 c3 c4 x2 (many d num4 s).2) r →
      Ev (fun k => block_Read_1.l2 k x4 x5 acc x8 x9 x11 x12 c1 (i : Int) c0 c1 c2 c3 c4 x2 s) r
  | 0, i, acc, s, hi, hacc, hs, h => by
    refine Ev.step (fun k => block_Read_1.l2.eq_2 ..) (ev_neg (by omega) (ev_pos (by omega) ?_))
    simpa [many] using h
  | d + 1, i, acc, s, hi, hacc, hs, h => by
    refine Ev.step (fun k => block_Read_1.l2.eq_2 ..) (ev_pos (by omega) (ev_pos (by omega) (ev_pos (by omega) (ev_pos (by omega) (ev_pos (by omega) (ev_pos (by omega) (ev_pos (by omega) ?_)))))))
    rw [num_or (bt_range s 0) (bt_range s 1) (bt_range s 2) (bt_range s 3), show wrap64 ((i : Int) + 1) = ((i + 1 : Nat) : Int) by unfold wrap64; omega]
    refine readRow_ev x4 x5 x8 x9 x11 x12 x2 h5 hD d (i + 1) (acc ++ [(num4 s).1]) (num4 s).2 (by omega) (by rw [List.length_append, hacc]; rfl) (by rw [num4_size]; omega) ?_
    rw [List.append_assoc]
    exact h
theorem readRows_ev (x4 : List (List (List Int))) (x8 x9 : Int) (P : Nat) (h4 : x4.length ≤ 1000) (hP : P ≤ 1000) (hD : c1.toNat ≤ 1000) :
    ∀ (d j : Nat) (acc : List (List Int)) (s : ByteArray), P = j + d → acc.length = j → d * (c1.toNat * 4) ≤ s.size → Ev (fun k => block_Read_1.l0 k (x4 ++ [acc ++ (many d (many c1.toNat num4) s).1]) x8 (wrap64 (x9 + 1)) c0 c1 c2 c3 c4 (P : Int) (many d (many c1.toNat num4) s).2) r →
      Ev (fun k => block_Read_1.l1 k x4 acc x8 x9 (P : Int) (j : Int) c0 c1 c2 c3 c4 (P : Int) s) r
  | 0, j, acc, s, hj, hacc, hs, h => by
    refine Ev.step (fun k => block_Read_1.l1.eq_2 ..) (ev_neg (by omega) (ev_pos (by omega) ?_))
    simpa [many] using h
  | d + 1, j, acc, s, hj, hacc, hs, h => by
    rw [Nat.add_mul] at hs
    refine Ev.step (fun k => block_Read_1.l1.eq_2 ..) (ev_pos (by omega) ?_)
    refine readRow_ev x4 acc x8 x9 (P : Int) (j : Int) (P : Int) (by omega) hD c1.toNat 0 [] s (by omega) rfl (by omega) ?_
    rw [show wrap64 ((j : Int) + 1) = ((j + 1 : Nat) : Int) by unfold wrap64; omega, List.nil_append]
    refine readRows_ev x4 x8 x9 P h4 hP hD d (j + 1) _ _ (by omega) (by rw [List.length_append, hacc]; rfl) (by rw [row_size]; omega) ?_
    rw [List.append_assoc]
    exact h
theorem readLists_ev (P : Nat) (hP : P ≤ 1000) (hD : c1.toNat ≤ 1000) (hL : c4.toNat ≤ 1000) :
    ∀ (d j : Nat) (acc : List (List (List Int))) (s : ByteArray), c4.toNat = j + d → acc.length = j → d * (P * (c1.toNat * 4)) ≤ s.size →
      Ev (fun k => block_Read_1.l0 k acc c4 (j : Int) c0 c1 c2 c3 c4 (P : Int) s) (acc ++ (takeLists d P c1.toNat s).1, (takeLists d P c1.toNat s).2)
  | 0, j, acc, s, hj, hacc, hs => by
    refine Ev.step (fun k => block_Read_1.l0.eq_2 ..) (ev_neg (by omega) ?_)
    simpa [takeLists, many] using Ev.now (acc, s)
  | d + 1, j, acc, s, hj, hacc, hs => by
    rw [Nat.add_mul] at hs
    refine Ev.step (fun k => block_Read_1.l0.eq_2 ..) (ev_pos (by omega) ?_)
    refine readRows_ev acc c4 (j : Int) P (by omega) hP hD P 0 [] s (by omega) rfl (by omega) ?_
    rw [show wrap64 ((j : Int) + 1) = ((j + 1 : Nat) : Int) by unfold wrap64; omega, List.nil_append]
    have := readLists_ev P hP hD hL d (j + 1) (acc ++ [(many P (many c1.toNat num4) s).1]) (many P (many c1.toNat num4) s).2 (by omega) (by rw [List.length_append, hacc]; rfl) (by rw [rows_size]; omega)
    rw [List.append_assoc] at this
    exact this
end
theorem readOne_ev (c0 c1 c2 c3 c4 : Int) (P : Nat) (s : ByteArray) (hP : P ≤ 1000) (hD : c1.toNat ≤ 1000) (hL : c4.toNat ≤ 1000) (hs : c4.toNat * (P * (c1.toNat * 4)) ≤ s.size) :
    Ev (fun k => block_Read_1.f k c0 c1 c2 c3 c4 (P : Int) s) (takeLists c4.toNat P c1.toNat s) := by
  unfold block_Read_1.f
  have := readLists_ev (c0 := c0) (c2 := c2) (c3 := c3) P hP hD hL c4.toNat 0 [] s (by omega) rfl hs
  rw [List.nil_append] at this
  exact this

/-! the document's reader -/
section
variable {r : List (List (List Int)) × ByteArray}
theorem refNum_ev (L P D : Int) (x10 : List (List (List Int))) (x11 : Int) (x12 : List (List Int)) (x13 : Int) (x14 : List Int) (x15 : Int) (s : ByteArray) (hs : 4 ≤ s.size) (hl : x14.length ≤ 1000)
    (h : Ev (fun k => tillerref11_lists.l2 k (num4 s).2 L P D x10 x11 x12 x13 (x14 ++ [(num4 s).1]) (wrap64 (x15 + 1))) r) : Ev (fun k => tillerref11_lists.l3 k s L P D x10 x11 x12 x13 x14 x15 0 0) r := by
  have h0 := bt_range s 0
  have h1 := bt_range s 1
  have h2 := bt_range s 2
  have h3 := bt_range s 3
  have w1 : wrap64 ((0 : Int) + 1) = 1 := by unfold wrap64; omega
  have w2 : wrap64 ((1 : Int) + 1) = 2 := by unfold wrap64; omega
  have w3 : wrap64 ((2 : Int) + 1) = 3 := by unfold wrap64; omega
  have w4 : wrap64 ((3 : Int) + 1) = 4 := by unfold wrap64; omega
  refine Ev.step (fun k => tillerref11_lists.l3.eq_2 ..) (ev_pos (by omega) (ev_pos (by omega) (ev_pos (by omega) ?_)))
  rw [w1]
  refine Ev.step (fun k => tillerref11_lists.l3.eq_2 ..) (ev_pos (by omega) (ev_pos (by omega) (ev_pos (by omega) ?_)))
  rw [w2]
  refine Ev.step (fun k => tillerref11_lists.l3.eq_2 ..) (ev_pos (by omega) (ev_pos (by omega) (ev_pos (by omega) ?_)))
  rw [w3]
  refine Ev.step (fun k => tillerref11_lists.l3.eq_2 ..) (ev_pos (by omega) (ev_pos (by omega) (ev_pos (by omega) ?_)))
  rw [w4]
  refine Ev.step (fun k => tillerref11_lists.l3.eq_2 ..) (ev_neg (by omega) (ev_pos (by omega) (ev_pos (by omega) ?_)))
  have e : ((256 * (((256 * (((256 * (((256 * 0) % 4294967296 + bt s 0 % 4294967296) % 4294967296)) % 4294967296 + bt s 1 % 4294967296) % 4294967296)) % 4294967296 + bt s 2 % 4294967296) % 4294967296)) % 4294967296 + bt s 3 % 4294967296) % 4294967296 = 16777216 * bt s 0 + 65536 * bt s 1 + 256 * bt s 2 + bt s 3 := by omega
  rw [e]
  exact h
theorem refRow_ev (L P : Int) (D : Nat) (x10 : List (List (List Int))) (x11 : Int) (x12 : List (List Int)) (x13 : Int) (h12 : x12.length ≤ 1000) (hD : D ≤ 1000) :
    ∀ (d i : Nat) (acc : List Int) (s : ByteArray), D = i + d → acc.length = i → d * 4 ≤ s.size → Ev (fun k => tillerref11_lists.l1 k (many d num4 s).2 L P (D : Int) x10 x11 (x12 ++ [acc ++ (many d num4 s).1]) (wrap64 (x13 + 1))) r →
      Ev (fun k => tillerref11_lists.l2 k s L P (D : Int) x10 x11 x12 x13 acc (i : Int)) r
  | 0, i, acc, s, hi, hacc, hs, h => by
    refine Ev.step (fun k => tillerref11_lists.l2.eq_2 ..) (ev_neg (by omega) (ev_pos (by omega) ?_))
    simpa [many] using h
  | d + 1, i, acc, s, hi, hacc, hs, h => by
    refine Ev.step (fun k => tillerref11_lists.l2.eq_2 ..) (ev_pos (by omega) ?_)
    refine refNum_ev L P (D : Int) x10 x11 x12 x13 acc (i : Int) s (by omega) (by omega) ?_
    rw [show wrap64 ((i : Int) + 1) = ((i + 1 : Nat) : Int) by unfold wrap64; omega]
    refine refRow_ev L P D x10 x11 x12 x13 h12 hD d (i + 1) (acc ++ [(num4 s).1]) (num4 s).2 (by omega) (by rw [List.length_append, hacc]; rfl) (by rw [num4_size]; omega) ?_
    rw [List.append_assoc]
    exact h
theorem refRows_ev (L : Int) (P D : Nat) (x10 : List (List (List Int))) (x11 : Int) (h10 : x10.length ≤ 1000) (hP : P ≤ 1000) (hD : D ≤ 1000) :
    ∀ (d j : Nat) (acc : List (List Int)) (s : ByteArray), P = j + d → acc.length = j → d * (D * 4) ≤ s.size → Ev (fun k => tillerref11_lists.l0 k (many d (many D num4) s).2 L (P : Int) (D : Int) (x10 ++ [acc ++ (many d (many D num4) s).1]) (wrap64 (x11 + 1))) r →
      Ev (fun k => tillerref11_lists.l1 k s L (P : Int) (D : Int) x10 x11 acc (j : Int)) r
  | 0, j, acc, s, hj, hacc, hs, h => by
    refine Ev.step (fun k => tillerref11_lists.l1.eq_2 ..) (ev_neg (by omega) (ev_pos (by omega) ?_))
    simpa [many] using h
  | d + 1, j, acc, s, hj, hacc, hs, h => by
    rw [Nat.add_mul] at hs
    refine Ev.step (fun k => tillerref11_lists.l1.eq_2 ..) (ev_pos (by omega) ?_)
    refine refRow_ev L (P : Int) D x10 x11 acc (j : Int) (by omega) hD D 0 [] s (by omega) rfl (by omega) ?_
    rw [show wrap64 ((j : Int) + 1) = ((j + 1 : Nat) : Int) by unfold wrap64; omega, List.nil_append]
    refine refRows_ev L P D x10 x11 h10 hP hD d (j + 1) _ _ (by omega) (by rw [List.length_append, hacc]; rfl) (by rw [row_size]; omega) ?_
    rw [List.append_assoc]
    exact h
theorem refLists_ev (L P D : Nat) (hP : P ≤ 1000) (hD : D ≤ 1000) (hL : L ≤ 1000) :
    ∀ (d j : Nat) (acc : List (List (List Int))) (s : ByteArray), L = j + d → acc.length = j → d * (P * (D * 4)) ≤ s.size →
      Ev (fun k => tillerref11_lists.l0 k s (L : Int) (P : Int) (D : Int) acc (j : Int)) (acc ++ (takeLists d P D s).1, (takeLists d P D s).2)
  | 0, j, acc, s, hj, hacc, hs => by
    refine Ev.step (fun k => tillerref11_lists.l0.eq_2 ..) (ev_neg (by omega) ?_)
    simpa [takeLists, many] using Ev.now (acc, s)
  | d + 1, j, acc, s, hj, hacc, hs => by
    rw [Nat.add_mul] at hs
    refine Ev.step (fun k => tillerref11_lists.l0.eq_2 ..) (ev_pos (by omega) ?_)
    refine refRows_ev (L : Int) P D acc (j : Int) (by omega) hP hD P 0 [] s (by omega) rfl (by omega) ?_
    rw [show wrap64 ((j : Int) + 1) = ((j + 1 : Nat) : Int) by unfold wrap64; omega, List.nil_append]
    have := refLists_ev L P D hP hD hL d (j + 1) (acc ++ [(many P (many D num4) s).1]) (many P (many D num4) s).2 (by omega) (by rw [List.length_append, hacc]; rfl) (by rw [rows_size]; omega)
    rw [List.append_assoc] at this
    exact this
end
theorem refLists_all (L P D : Nat) (s : ByteArray) (hP : P ≤ 1000) (hD : D ≤ 1000) (hL : L ≤ 1000) (hs : L * (P * (D * 4)) ≤ s.size) :
    Ev (fun k => tillerref11_lists.f k s (L : Int) (P : Int) (D : Int)) (takeLists L P D s) := by
  unfold tillerref11_lists.f
  have := refLists_ev L P D hP hD hL L 0 [] s (by omega) rfl hs
  rw [List.nil_append] at this
  exact this

/-! reading -/
def rdTs (s : ByteArray) : List Int := ((bytesOf s).drop 2).take (bt s 0).toNat
def rdRest (s : ByteArray) : ByteArray := s.extract (2 + (bt s 0).toNat) s.size
def rdP (s : ByteArray) : Nat := (bt s 0 - bt s 1).toNat
def rdA (c1 c4 : Int) (s : ByteArray) : List (List (List Int)) := (takeLists c4.toNat (rdP s) c1.toNat (rdRest s)).1
def rdB (c1 c4 : Int) (s : ByteArray) : List (List (List Int)) := (takeLists c4.toNat (rdP s) c1.toNat (takeLists c4.toNat (rdP s) c1.toNat (rdRest s)).2).1
def rdE (c0 c1 c4 : Int) (s : ByteArray) : Int :=
  if (s.size : Int) < 2 + bt s 0 then 11
  else if c4 > 4 ∨ c1 > 32 ∨ (rdRest s).size ≠ 2 * (c4.toNat * (rdP s * (c1.toNat * 4))) then 6
  else sCheck c0 c1 c4 (rdTs s) (bt s 1) (rdA c1 c4 s) (rdB c1 c4 s)
def sRead (c0 c1 c4 : Int) (s : ByteArray) : List Int × Int × List (List (List Int)) × List (List (List Int)) × Int :=
  if rdE c0 c1 c4 s = 0 then (rdTs s, bt s 1, rdA c1 c4 s, rdB c1 c4 s, 0) else ([], 0, [], [], rdE c0 c1 c4 s)
theorem mx_toNat (c : Int) : mx c 0 = (c.toNat : Int) := by unfold mx; split <;> omega
theorem want_eq (P L D : Nat) (hP : P ≤ 255) (hL : L ≤ 4) (hD : D ≤ 32) : wrap64 (wrap64 (wrap64 (8 * (P : Int)) * (L : Int)) * (D : Int)) = ((2 * (L * (P * (D * 4))) : Nat) : Int) := by
  have a1 : wrap64 (8 * (P : Int)) = ((8 * P : Nat) : Int) := by unfold wrap64; omega
  have b2 : 8 * P * L ≤ 2040 * 4 := Nat.mul_le_mul (by omega) hL
  have a2 : wrap64 (((8 * P : Nat) : Int) * (L : Int)) = ((8 * P * L : Nat) : Int) := by
    rw [← Int.natCast_mul]
    unfold wrap64
    omega
  have b3 : 8 * P * L * D ≤ 8160 * 32 := Nat.mul_le_mul b2 hD
  rw [a1, a2, ← Int.natCast_mul]
  have e : 8 * P * L * D = 2 * (L * (P * (D * 4))) := by
    rw [show P * (D * 4) = P * D * 4 by rw [Nat.mul_assoc], Nat.mul_comm (P * D) 4, ← Nat.mul_assoc L 4, Nat.mul_comm L 4, Nat.mul_assoc 4 L, ← Nat.mul_assoc 2 4, Nat.mul_assoc 8 P, Nat.mul_assoc 8, Nat.mul_comm P L, Nat.mul_assoc L P D]
  rw [← e]
  unfold wrap64
  omega
theorem wrap_bt (s : ByteArray) (i : Int) : wrap64 (bt s i) = bt s i := by
  have := bt_range s i
  exact wrap64_id (by omega) (by omega)
theorem rdTs_length (s : ByteArray) (h : ¬ (s.size : Int) < 2 + bt s 0) : (rdTs s).length = (bt s 0).toNat := by
  have := bt_range s 0
  unfold rdTs
  rw [List.length_take, List.length_drop, bytesOf_length]
  omega
theorem rdTs_get (s : ByteArray) (i : Nat) (h : i < (rdTs s).length) : (rdTs s)[i] = bt s ((2 + i : Nat) : Int) := by
  have h2 : i < (bt s 0).toNat ∧ 2 + i < (bytesOf s).length := by
    unfold rdTs at h
    rw [List.length_take, List.length_drop] at h
    omega
  rw [← rd_bytesOf, rd_nat _ _ h2.2]
  simp only [rdTs, List.getElem_take, List.getElem_drop]
theorem rd_held (c1 c4 : Int) (s : ByteArray) (h4 : c4 ≤ 4) (h1 : c1 ≤ 32) : Held (rdA c1 c4 s) ∧ Held (rdB c1 c4 s) := by
  have hb := bt_range s 0
  have hb1 := bt_range s 1
  have key : ∀ t, Held (takeLists c4.toNat (rdP s) c1.toNat t).1 := by
    intro t
    obtain ⟨h, hx⟩ := lists_shape c4.toNat (rdP s) c1.toNat t
    refine ⟨by omega, fun x hx1 => ⟨by have := (hx x hx1).1; unfold rdP at this; omega, fun r hr => by have := (hx x hx1).2 r hr; omega⟩⟩
  exact ⟨key _, key _⟩
theorem blockRead_ev (c0 c1 c2 c3 c4 : Int) (s : ByteArray) (hs : s.size ≤ 140737488351232) : Ev (fun k => block_Read.f k c0 c1 c2 c3 c4 s) (sRead c0 c1 c4 s) := by
  have hb := bt_range s 0
  have hb1 := bt_range s 1
  unfold block_Read.f
  rw [wrap_bt, wrap_bt]
  have bad11 : rdE c0 c1 c4 s = 11 → Ev (fun _ => some (([] : List Int), (0 : Int), ([] : List (List (List Int))), ([] : List (List (List Int))), (11 : Int))) (sRead c0 c1 c4 s) := fun h => by
    unfold sRead
    rw [h]
    exact Ev.now _
  refine ev_if (fun c => bad11 (if_pos (by omega))) (fun n1 => ev_pos (by omega) (ev_pos (by omega) (ev_pos (by omega) ?_)))
  rw [extract_size]
  refine ev_if (fun c => bad11 (if_pos (by omega))) (fun n2 => ev_pos (by omega) (ev_pos (by omega) ?_))
  have hlt : ¬ (s.size : Int) < 2 + bt s 0 := by omega
  have ets : bytesOf ((s.extract 2 s.size).extract 0 (bt s 0).toNat) = rdTs s := by
    rw [bytesOf_take, bytesOf_extract]
    rfl
  have htl := rdTs_length s hlt
  have hrest : (s.extract 2 s.size).extract (bt s 0).toNat (s.extract 2 s.size).size = rdRest s := by
    apply bytesOf_inj
    rw [bytesOf_extract, bytesOf_extract]
    unfold rdRest
    rw [bytesOf_extract, List.drop_drop]
  refine ev_some (a := rdTs s) (by unfold pseudo_bytes.f; rw [ets]) ?_
  refine ev_loop (rdTs s).length (fun k i (b : List Int) => block_Read.l0 k (bt s 0) (bt s 1) (rdTs s) ((rdTs s).length : Int) (i : Int) c0 c1 c2 c3 c4 (s.extract 2 s.size) b (bt s 1)) (fun i => (rdTs s).take i) _
    (fun i hi ih => ?_) ?_ 0 (by omega)
  · refine Ev.step (fun k => block_Read.l0.eq_2 ..) (ev_pos (by omega) (ev_pos (by omega) (ev_pos (by omega) (ev_pos (by rw [List.length_take]; omega) ?_))))
    rw [rd_nat _ i hi, wrap_next hi (by omega)]
    have e : wrap64 (rdTs s)[i] = (rdTs s)[i] := by rw [rdTs_get s i hi, wrap_bt]
    rw [e, ← take_next _ i hi]
    exact ih
  · refine Ev.step (fun k => block_Read.l0.eq_2 ..) (ev_neg (by omega) (ev_pos (by omega) (ev_pos (by rw [extract_size]; omega) ?_)))
    rw [hrest, List.take_length]
    have eP : mx (wrap64 (bt s 0 - bt s 1)) 0 = (rdP s : Int) := by
      rw [wrap64_id (by omega) (by omega), mx_toNat]
      rfl
    rw [eP, mx_toNat, mx_toNat]
    have hPle : rdP s ≤ 255 := by unfold rdP; omega
    have bad6 : rdE c0 c1 c4 s = 6 → Ev (fun k => block_Read.j1 k true c0 c1 c2 c3 c4 (rdRest s) (rdTs s) (bt s 1) (rdP s : Int)) (sRead c0 c1 c4 s) := fun h => by
      refine Ev.step (fun k => block_Read.j1.eq_2 ..) (ev_pos rfl ?_)
      unfold sRead
      rw [h]
      exact Ev.now _
    by_cases c4le : c4 > 4
    · have h6 : rdE c0 c1 c4 s = 6 := by
        unfold rdE
        rw [if_neg hlt, if_pos (Or.inl c4le)]
      exact ev_if (fun _ => ev_pos c4le (bad6 h6)) (fun _ => bad6 h6)
    by_cases c1le : c1 > 32
    · have h6 : rdE c0 c1 c4 s = 6 := by
        unfold rdE
        rw [if_neg hlt, if_pos (Or.inr (Or.inl c1le))]
      refine ev_if (fun _ => ev_neg c4le ?_) (fun _ => bad6 h6)
      rw [decide_eq_true c1le]
      exact bad6 h6
    rw [want_eq (rdP s) c4.toNat c1.toNat hPle (by omega) (by omega)]
    refine ev_if (fun hsz => ev_neg c4le ?_) (fun hsz => bad6 ?_)
    · rw [decide_eq_false c1le]
      have hsz2 : (rdRest s).size = 2 * (c4.toNat * (rdP s * (c1.toNat * 4))) := by omega
      have hE : rdE c0 c1 c4 s = sCheck c0 c1 c4 (rdTs s) (bt s 1) (rdA c1 c4 s) (rdB c1 c4 s) := by
        unfold rdE
        rw [if_neg hlt, if_neg (by omega)]
      have hH := rd_held c1 c4 s (by omega) (by omega)
      refine Ev.step (fun k => block_Read.j1.eq_2 ..) (ev_neg (by simp) ?_)
      refine Ev.bind (readOne_ev c0 c1 c2 c3 c4 (rdP s) (rdRest s) (by omega) (by omega) (by omega) (by omega)) ?_
      refine Ev.bind (readOne_ev c0 c1 c2 c3 c4 (rdP s) _ (by omega) (by omega) (by omega) (by rw [lists_size]; omega)) ?_
      refine Ev.bind (blockCheck_ev c0 c1 c2 c3 c4 (rdTs s) (bt s 1) (rdA c1 c4 s) (rdB c1 c4 s) (by omega) hH.1 hH.2 (by omega)) ?_
      unfold sRead
      rw [hE]
      refine ev_if (fun h => ?_) (fun h => ?_)
      · rw [if_pos h]
        exact Ev.now _
      · rw [if_neg h]
        exact Ev.now _
    · unfold rdE
      rw [if_neg hlt, if_pos (Or.inr (Or.inr (by omega)))]
theorem refRead_ev (c0 c1 c2 c3 c4 : Int) (s : ByteArray) (hs : s.size ≤ 140737488351232) : Ev (fun k => tillerref11_Read.f k c0 c1 c2 c3 c4 s) (sRead c0 c1 c4 s) := by
  have hb := bt_range s 0
  have hb1 := bt_range s 1
  unfold tillerref11_Read.f
  rw [wrap_bt]
  have bad11 : rdE c0 c1 c4 s = 11 → Ev (fun k => tillerref11_Read.j0 k s true c0 c1 c2 c3 c4) (sRead c0 c1 c4 s) := fun h => by
    refine Ev.step (fun k => tillerref11_Read.j0.eq_2 ..) (ev_pos rfl ?_)
    unfold sRead
    rw [h]
    exact Ev.now _
  refine ev_if (fun c => bad11 (if_pos (by omega))) (fun n1 => ev_pos (by omega) ?_)
  have ew : wrap64 ((s.size : Int) - 2) = (s.size : Int) - 2 := wrap64_id (by omega) (by omega)
  rw [ew]
  by_cases c2_ : (s.size : Int) - 2 < bt s 0
  · rw [decide_eq_true c2_]
    exact bad11 (if_pos (by omega))
  rw [decide_eq_false c2_]
  have hlt : ¬ (s.size : Int) < 2 + bt s 0 := by omega
  have htl := rdTs_length s hlt
  refine Ev.step (fun k => tillerref11_Read.j0.eq_2 ..) (ev_neg (by simp) (ev_pos (by omega) (ev_pos (by omega) ?_)))
  rw [wrap_bt, wrap_bt]
  have en : (bt s 0) = ((rdTs s).length : Int) := by omega
  refine ev_loop (rdTs s).length (fun k i (b : List Int) => tillerref11_Read.l0 k s (bt s 0) (i : Int) c0 c1 c2 c3 c4 b (bt s 1)) (fun i => (rdTs s).take i) _
    (fun i hi ih => ?_) ?_ 0 (by omega)
  · have e2 : wrap64 (2 + (i : Int)) = ((2 + i : Nat) : Int) := by unfold wrap64; omega
    refine Ev.step (fun k => tillerref11_Read.l0.eq_2 ..) (ev_pos (by omega) ?_)
    rw [e2, wrap_bt]
    refine ev_pos (by omega) (ev_pos (by omega) (ev_pos (by rw [List.length_take]; omega) ?_))
    rw [wrap_next hi (by omega), ← rdTs_get s i hi, ← take_next _ i hi]
    exact ih
  · refine Ev.step (fun k => tillerref11_Read.l0.eq_2 ..) (ev_neg (by omega) ?_)
    have e2 : wrap64 (2 + bt s 0) = ((2 + (bt s 0).toNat : Nat) : Int) := by unfold wrap64; omega
    rw [e2]
    refine ev_pos (by omega) (ev_pos (by omega) ?_)
    rw [Int.toNat_natCast, List.take_length, wrap64_id (x := bt s 0 - bt s 1) (by omega) (by omega)]
    show Ev (fun k => if bt s 0 - bt s 1 < 0 then tillerref11_Read.j2 k (rdRest s) 0 c0 c1 c2 c3 c4 (rdTs s) (bt s 1) else tillerref11_Read.j2 k (rdRest s) (bt s 0 - bt s 1) c0 c1 c2 c3 c4 (rdTs s) (bt s 1)) _
    have hPle : rdP s ≤ 255 := by unfold rdP; omega
    have main : ∀ p : Int, p = (rdP s : Int) → Ev (fun k => tillerref11_Read.j2 k (rdRest s) p c0 c1 c2 c3 c4 (rdTs s) (bt s 1)) (sRead c0 c1 c4 s) := by
      rintro p rfl
      have bad6 : rdE c0 c1 c4 s = 6 → Ev (fun k => tillerref11_Read.j3 k (rdRest s) (rdP s : Int) true c0 c1 c2 c3 c4 (rdTs s) (bt s 1)) (sRead c0 c1 c4 s) := fun h => by
        refine Ev.step (fun k => tillerref11_Read.j3.eq_2 ..) (ev_pos rfl ?_)
        unfold sRead
        rw [h]
        exact Ev.now _
      refine Ev.step (fun k => tillerref11_Read.j2.eq_2 ..) (ev_if (fun c4le => bad6 ?_) (fun c4le => ?_))
      · unfold rdE
        rw [if_neg hlt, if_pos (Or.inl c4le)]
      by_cases c1le : c1 > 32
      · rw [decide_eq_true c1le]
        refine bad6 ?_
        unfold rdE
        rw [if_neg hlt, if_pos (Or.inr (Or.inl c1le))]
      rw [decide_eq_false c1le]
      refine Ev.step (fun k => tillerref11_Read.j3.eq_2 ..) (ev_neg (by simp) ?_)
      rw [mx_toNat, mx_toNat, want_eq (rdP s) c4.toNat c1.toNat hPle (by omega) (by omega)]
      refine ev_if (fun hsz => ?_) (fun hsz => ?_)
      · have hsz2 : (rdRest s).size = 2 * (c4.toNat * (rdP s * (c1.toNat * 4))) := by omega
        have hE : rdE c0 c1 c4 s = sCheck c0 c1 c4 (rdTs s) (bt s 1) (rdA c1 c4 s) (rdB c1 c4 s) := by
          unfold rdE
          rw [if_neg hlt, if_neg (by omega)]
        have hH := rd_held c1 c4 s (by omega) (by omega)
        refine Ev.bind (refLists_all c4.toNat (rdP s) c1.toNat (rdRest s) (by omega) (by omega) (by omega) (by omega)) ?_
        refine Ev.bind (refLists_all c4.toNat (rdP s) c1.toNat _ (by omega) (by omega) (by omega) (by rw [lists_size]; omega)) ?_
        refine Ev.bind (refCheck_ev c0 c1 c2 c3 c4 (rdTs s) (bt s 1) (rdA c1 c4 s) (rdB c1 c4 s) (by omega) hH.1 hH.2 (by omega)) ?_
        unfold sRead
        rw [hE]
        refine ev_if (fun h => ?_) (fun h => ?_)
        · rw [if_pos h]
          exact Ev.now _
        · rw [if_neg h]
          exact Ev.now _
      · have h6 : rdE c0 c1 c4 s = 6 := by
          unfold rdE
          rw [if_neg hlt, if_pos (Or.inr (Or.inr (by omega)))]
        unfold sRead
        rw [h6]
        exact Ev.now _
    refine ev_if (fun c => main _ ?_) (fun c => main _ ?_)
    · unfold rdP; omega
    · unfold rdP; omega

theorem same08_ev (l : List (List (List Int))) (h : Held l) : Ev (fun k => tillerref08_Same.f k l l) true := by
  unfold tillerref08_Same.f
  have hl := h.1
  refine ev_pos rfl ?_
  refine ev_loop l.length (fun k i (_ : Unit) => tillerref08_Same.l0 k l l (l.length : Int) (i : Int)) (fun _ => ()) true (fun i hi ih => ?_) ?_ 0 (by omega)
  · have hx := h.2 _ (List.getElem_mem hi)
    have hx1 := hx.1
    refine Ev.step (fun k => tillerref08_Same.l0.eq_2 ..) (ev_pos (by omega) (ev_pos (by omega) (ev_pos (by omega) (ev_pos (by omega) (ev_pos rfl ?_)))))
    rw [rdLL_nat l i hi]
    refine ev_loop l[i].length (fun k j (_ : Unit) => tillerref08_Same.l1 k l l (i : Int) (l.length : Int) (i : Int) (l[i].length : Int) (j : Int)) (fun _ => ()) true (fun j hj jh => ?_) ?_ 0 (by omega)
    · have hy := hx.2 _ (List.getElem_mem hj)
      refine Ev.step (fun k => tillerref08_Same.l1.eq_2 ..) (ev_pos (by omega) (ev_pos (by omega) (ev_pos (by omega) (ev_pos (by omega) ?_))))
      rw [rdLL_nat l i hi]
      refine ev_pos (by omega) (ev_pos (by omega) (ev_pos (by omega) ?_))
      refine Ev.bind (same_ev _ _ rfl (by rw [rdL_nat l[i] j hj]; omega)) (ev_pos rfl ?_)
      rw [wrap_next hj (by omega)]
      exact jh
    · refine Ev.step (fun k => tillerref08_Same.l1.eq_2 ..) (ev_neg (by omega) ?_)
      rw [wrap_next hi (by omega)]
      exact ih
  · exact Ev.step (fun k => tillerref08_Same.l0.eq_2 ..) (ev_neg (by omega) (Ev.now _))
theorem same11_ev (ts : List Int) (fr : Int) (ks vs : List (List (List Int))) (ht : ts.length ≤ 1000) (hk : Held ks) (hv : Held vs) : Ev (fun k => tillerref11_Same.f k ts fr ks vs ts fr ks vs) true := by
  unfold tillerref11_Same.f
  refine ev_pos rfl (ev_pos rfl (Ev.bind (same08_ev ks hk) (ev_pos rfl (Ev.bind (same08_ev vs hv) ?_))))
  refine Ev.step (fun k => tillerref11_Same.j0.eq_2 ..) (ev_neg (by decide) ?_)
  refine ev_loop ts.length (fun k i (_ : Unit) => tillerref11_Same.l0 k (ts.length : Int) (i : Int) ts fr ks vs ts fr ks vs) (fun _ => ()) true (fun i hi ih => ?_) ?_ 0 (by omega)
  · refine Ev.step (fun k => tillerref11_Same.l0.eq_2 ..) (ev_pos (by omega) (ev_pos (by omega) (ev_pos (by omega) (ev_pos (by omega) (ev_pos rfl ?_)))))
    rw [wrap_next hi (by omega)]
    exact ih
  · exact Ev.step (fun k => tillerref11_Same.l0.eq_2 ..) (ev_neg (by omega) (Ev.now _))

/-! cut again -/
/-- Lists as the statements leave them. -/
def Cut5 (l : List (List (List Int))) : Prop := l.length ≤ 5 ∧ ∀ x ∈ l, x.length ≤ 20 ∧ ∀ r ∈ x, r.length ≤ 40 ∧ ∀ n ∈ r, I32 n
theorem Cut5.small {l : List (List (List Int))} (h : Cut5 l) : Small3 l := ⟨by have := h.1; omega, fun x hx => ⟨by have := (h.2 x hx).1; omega, fun r hr => by have := ((h.2 x hx).2 r hr).1; omega⟩⟩
theorem Cut5.rows {l : List (List (List Int))} (h : Cut5 l) : ∀ r ∈ l, Rows32 r := fun x hx r hr => ⟨by have := ((h.2 x hx).2 r hr).1; omega, ((h.2 x hx).2 r hr).2⟩
theorem lists5_cut {l : List (List (List Int))} (h : ∀ r ∈ l, Rows32 r) : Cut5 (lists5 l) := by
  refine ⟨by unfold lists5; rw [List.length_map, List.length_take]; omega, fun x hx => ?_⟩
  obtain ⟨y, hy, rfl⟩ := List.mem_map.1 hx
  refine ⟨by rw [few40_length]; omega, fun r hr => few40_row (h y (List.mem_of_mem_take hy)) hr⟩
theorem lists5_again {l : List (List (List Int))} (h : Cut5 l) : lists5 l = l := by
  unfold lists5
  rw [List.take_of_length_le h.1]
  refine (List.map_congr_left fun x hx => ?_).trans (List.map_id l)
  have hx1 := h.2 x hx
  unfold few40
  rw [List.take_of_length_le hx1.1]
  refine (List.map_congr_left fun r hr => ?_).trans (List.map_id x)
  exact List.take_of_length_le (hx1.2 r hr).1

/-! written and read -/
theorem num4_enc {x : Int} (hx : I32 x) {s : ByteArray} {t : List Int} (h : bytesOf s = enc4 x ++ t) : (num4 s).1 = x ∧ bytesOf (num4 s).2 = t := by
  have e0 : bt s 0 = x / 16777216 % 256 := by rw [← rd_bytesOf, h]; rfl
  have e1 : bt s 1 = x / 65536 % 256 := by rw [← rd_bytesOf, h]; rfl
  have e2 : bt s 2 = x / 256 % 256 := by rw [← rd_bytesOf, h]; rfl
  have e3 : bt s 3 = x % 256 := by rw [← rd_bytesOf, h]; rfl
  constructor
  · show wrap32 (16777216 * bt s 0 + 65536 * bt s 1 + 256 * bt s 2 + bt s 3) = x
    rw [e0, e1, e2, e3]
    obtain ⟨h0, h1⟩ := hx
    unfold wrap32
    omega
  · show bytesOf (s.extract 4 s.size) = t
    rw [bytesOf_extract, h]
    rfl
theorem many_enc {α : Type} (f : ByteArray → α × ByteArray) (e : α → List Int) : ∀ (l : List α), (∀ a ∈ l, ∀ s t, bytesOf s = e a ++ t → (f s).1 = a ∧ bytesOf (f s).2 = t) → ∀ s t, bytesOf s = l.flatMap e ++ t → (many l.length f s).1 = l ∧ bytesOf (many l.length f s).2 = t
  | [], _, s, t, h => ⟨rfl, h⟩
  | a :: l, hf, s, t, h => by
    rw [List.flatMap_cons, List.append_assoc] at h
    obtain ⟨h1, h2⟩ := hf a List.mem_cons_self s _ h
    obtain ⟨h3, h4⟩ := many_enc f e l (fun b hb => hf b (List.mem_cons_of_mem _ hb)) (f s).2 t h2
    refine ⟨?_, h4⟩
    show (f s).1 :: (many l.length f (f s).2).1 = a :: l
    rw [h1, h3]
theorem lists_enc {P D : Nat} {l : List (List (List Int))} (h : ∀ x ∈ l, x.length = P ∧ ∀ r ∈ x, r.length = D ∧ ∀ n ∈ r, I32 n) {s : ByteArray} {t : List Int} (hs : bytesOf s = encLists l ++ t) :
    (takeLists l.length P D s).1 = l ∧ bytesOf (takeLists l.length P D s).2 = t := by
  refine many_enc _ encRows l (fun x hx s t hs => ?_) s t hs
  obtain ⟨h1, h2⟩ := h x hx
  subst h1
  refine many_enc _ encRow x (fun r hr s t hs => ?_) s t hs
  obtain ⟨h3, h4⟩ := h2 r hr
  subst h3
  exact many_enc num4 enc4 r (fun n hn s t hs => num4_enc (h4 n hn) hs) s t hs
theorem num4_i32 (s : ByteArray) : I32 (num4 s).1 := by
  show I32 (wrap32 _)
  unfold wrap32 I32
  omega
theorem four_of {l : List Int} (h : 4 ≤ l.length) : ∃ a b c d t, l = a :: b :: c :: d :: t := by
  match l, h with
  | a :: b :: c :: d :: t, _ => exact ⟨a, b, c, d, t, rfl⟩
theorem num4_dec (s : ByteArray) (h : 4 ≤ s.size) : bytesOf s = enc4 (num4 s).1 ++ bytesOf (num4 s).2 := by
  obtain ⟨a, b, c, d, t, e⟩ := four_of (l := bytesOf s) (by rw [bytesOf_length]; exact h)
  have hr := bytesOf_range s
  rw [e] at hr
  have ha := hr a (by simp)
  have hb := hr b (by simp)
  have hc := hr c (by simp)
  have hd := hr d (by simp)
  have e0 : bt s 0 = a := by rw [← rd_bytesOf, e]; rfl
  have e1 : bt s 1 = b := by rw [← rd_bytesOf, e]; rfl
  have e2 : bt s 2 = c := by rw [← rd_bytesOf, e]; rfl
  have e3 : bt s 3 = d := by rw [← rd_bytesOf, e]; rfl
  have h2 : bytesOf (num4 s).2 = t := by
    show bytesOf (s.extract 4 s.size) = t
    rw [bytesOf_extract, e]
    rfl
  have h1 : (num4 s).1 = wrap32 (16777216 * a + 65536 * b + 256 * c + d) := by
    show wrap32 (16777216 * bt s 0 + 65536 * bt s 1 + 256 * bt s 2 + bt s 3) = _
    rw [e0, e1, e2, e3]
  rw [h2, h1, e]
  unfold enc4 wrap32
  have q1 : ((16777216 * a + 65536 * b + 256 * c + d + 2147483648) % 4294967296 - 2147483648) / 16777216 % 256 = a := by omega
  have q2 : ((16777216 * a + 65536 * b + 256 * c + d + 2147483648) % 4294967296 - 2147483648) / 65536 % 256 = b := by omega
  have q3 : ((16777216 * a + 65536 * b + 256 * c + d + 2147483648) % 4294967296 - 2147483648) / 256 % 256 = c := by omega
  have q4 : ((16777216 * a + 65536 * b + 256 * c + d + 2147483648) % 4294967296 - 2147483648) % 256 = d := by omega
  rw [q1, q2, q3, q4]
  rfl
theorem many_dec {α : Type} (f : ByteArray → α × ByteArray) (e : α → List Int) (z : Nat) (hz : ∀ s, (f s).2.size = s.size - z) (hf : ∀ s, z ≤ s.size → bytesOf s = e (f s).1 ++ bytesOf (f s).2) :
    ∀ n s, n * z ≤ s.size → bytesOf s = (many n f s).1.flatMap e ++ bytesOf (many n f s).2
  | 0, _, _ => rfl
  | n + 1, s, h => by
    rw [Nat.add_mul] at h
    have h1 := hf s (by omega)
    have h2 := many_dec f e z hz hf n (f s).2 (by rw [hz]; omega)
    show bytesOf s = ((f s).1 :: (many n f (f s).2).1).flatMap e ++ bytesOf (many n f (f s).2).2
    rw [List.flatMap_cons, List.append_assoc, ← h2]
    exact h1
theorem lists_dec (L P D : Nat) (s : ByteArray) (h : L * (P * (D * 4)) ≤ s.size) : bytesOf s = encLists (takeLists L P D s).1 ++ bytesOf (takeLists L P D s).2 :=
  many_dec _ encRows _ (rows_size P D) (fun s hs => many_dec _ encRow _ (row_size D) (fun s hs => many_dec _ enc4 4 num4_size num4_dec D s hs) P s hs) L s h
theorem lists_i32 (L P D : Nat) (s : ByteArray) : ∀ x ∈ (takeLists L P D s).1, ∀ r ∈ x, ∀ n ∈ r, I32 n :=
  many_all _ (fun x : List (List Int) => ∀ r ∈ x, ∀ n ∈ r, I32 n) (fun s => many_all _ (fun r : List Int => ∀ n ∈ r, I32 n) (fun s => many_all _ (fun n : Int => I32 n) num4_i32 D s) P s) L s
theorem sCheck_zero {c0 c1 c4 : Int} {ts : List Int} {fr : Int} {ks vs : List (List (List Int))} (h : sCheck c0 c1 c4 ts fr ks vs = 0) :
    0 ≤ fr ∧ fr < (ts.length : Int) ∧ (ts.length : Int) ≤ 128 ∧ (ts.length : Int) - fr ≤ 16 ∧ (ks.length : Int) = c4 ∧ (vs.length : Int) = c4 ∧ ts.all (okTok c0) = true ∧ okShape ((ts.length : Int) - fr) c1 ks = true ∧ okShape ((ts.length : Int) - fr) c1 vs = true := by
  unfold sCheck at h
  by_cases a : fr < 0 ∨ fr ≥ (ts.length : Int) ∨ (ts.length : Int) > 128 ∨ (ts.length : Int) - fr > 16 ∨ (ks.length : Int) ≠ c4 ∨ (vs.length : Int) ≠ c4
  · rw [if_pos a] at h
    omega
  rw [if_neg a] at h
  by_cases b : ts.all (okTok c0) = true
  · rw [if_pos b] at h
    by_cases c : okShape ((ts.length : Int) - fr) c1 ks = true ∧ okShape ((ts.length : Int) - fr) c1 vs = true
    · exact ⟨by omega, by omega, by omega, by omega, by omega, by omega, b, c.1, c.2⟩
    · rw [if_neg c] at h
      omega
  · rw [if_neg b] at h
    omega
theorem okShape_all {n d : Int} {l : List (List (List Int))} (h : okShape n d l = true) : ∀ x ∈ l, (x.length : Int) = n ∧ ∀ r ∈ x, (r.length : Int) = d := by
  intro x hx
  have h1 := List.all_eq_true.1 h x hx
  simp only [okList, Bool.and_eq_true, beq_iff_eq] at h1
  exact ⟨h1.1, fun r hr => eq_of_beq (List.all_eq_true.1 h1.2 r hr)⟩
theorem encLists_eq_len {P D : Nat} {l : List (List (List Int))} (h : ∀ x ∈ l, x.length = P ∧ ∀ r ∈ x, r.length = D) : (encLists l).length = l.length * (P * (D * 4)) := by
  refine flatMap_eq_len encRows (P * (D * 4)) l (fun x hx => ?_)
  obtain ⟨h1, h2⟩ := h x hx
  have := flatMap_eq_len encRow (D * 4) x (fun r hr => by rw [encRow_length, h2 r hr])
  rw [h1] at this
  exact this
/-- What was written of a block that is right reads back as it was. -/
theorem read_bytes {c0 c1 c4 : Int} {ts : List Int} {fr : Int} {ks vs : List (List (List Int))} (h : sCheck c0 c1 c4 ts fr ks vs = 0) (h4 : c4 ≤ 4) (h1 : c1 ≤ 32) (h0 : c0 ≤ 64) (hk : ∀ x ∈ ks, ∀ r ∈ x, ∀ n ∈ r, I32 n) (hv : ∀ x ∈ vs, ∀ r ∈ x, ∀ n ∈ r, I32 n) :
    sRead c0 c1 c4 (strOfNums (sBytes ts fr ks vs)) = (ts, fr, ks, vs, 0) := by
  obtain ⟨a1, a2, a3, a4, a5, a6, a7, a8, a9⟩ := sCheck_zero h
  have hB := bytesOf_strOfNums (sBytes_range ts fr ks vs)
  generalize hu : strOfNums (sBytes ts fr ks vs) = u at *
  have etok : ts.map (fun t => t % 256) = ts := by
    refine (List.map_congr_left fun t ht => ?_).trans (List.map_id ts)
    have := List.all_eq_true.1 a7 t ht
    simp only [okTok, Bool.and_eq_true, Bool.not_eq_true', decide_eq_false_iff_not] at this
    show t % 256 = t
    omega
  have eB : bytesOf u = (ts.length : Int) :: fr :: (ts ++ (encLists ks ++ encLists vs)) := by
    rw [hB]
    unfold sBytes
    rw [etok, show (ts.length : Int) % 256 = (ts.length : Int) by omega, show fr % 256 = fr by omega]
    simp
  have b0 : bt u 0 = (ts.length : Int) := by rw [← rd_bytesOf, eB]; rfl
  have b1 : bt u 1 = fr := by rw [← rd_bytesOf, eB]; rfl
  have eTs : rdTs u = ts := by
    unfold rdTs
    rw [b0, eB, Int.toNat_natCast]
    show (ts ++ (encLists ks ++ encLists vs)).take ts.length = ts
    rw [List.take_left]
  have eRest : bytesOf (rdRest u) = encLists ks ++ encLists vs := by
    unfold rdRest
    rw [bytesOf_extract, b0, eB, Int.toNat_natCast, Nat.add_comm]
    show (ts ++ (encLists ks ++ encLists vs)).drop ts.length = _
    rw [List.drop_left]
  have eP : (rdP u : Int) = (ts.length : Int) - fr := by
    unfold rdP
    rw [b0, b1]
    omega
  have sk : ∀ x ∈ ks, x.length = rdP u ∧ ∀ r ∈ x, r.length = c1.toNat := fun x hx => by
    obtain ⟨q1, q2⟩ := okShape_all a8 x hx
    exact ⟨by omega, fun r hr => by have := q2 r hr; omega⟩
  have sv : ∀ x ∈ vs, x.length = rdP u ∧ ∀ r ∈ x, r.length = c1.toNat := fun x hx => by
    obtain ⟨q1, q2⟩ := okShape_all a9 x hx
    exact ⟨by omega, fun r hr => by have := q2 r hr; omega⟩
  have ek := lists_enc (fun x hx => ⟨(sk x hx).1, fun r hr => ⟨(sk x hx).2 r hr, hk x hx r hr⟩⟩) eRest
  have lk : c4.toNat = ks.length := by omega
  have lv : c4.toNat = vs.length := by omega
  have ev := lists_enc (s := (takeLists ks.length (rdP u) c1.toNat (rdRest u)).2) (t := []) (fun x hx => ⟨(sv x hx).1, fun r hr => ⟨(sv x hx).2 r hr, hv x hx r hr⟩⟩) (by rw [ek.2, List.append_nil])
  have eA : rdA c1 c4 u = ks := by
    unfold rdA
    rw [lk]
    exact ek.1
  have eBv : rdB c1 c4 u = vs := by
    unfold rdB
    rw [lk]
    have := ev.1
    rw [← lv, lk] at this
    exact this
  have esz : (rdRest u).size = 2 * (c4.toNat * (rdP u * (c1.toNat * 4))) := by
    rw [← bytesOf_length, eRest, List.length_append, encLists_eq_len sk, encLists_eq_len sv, ← lk, ← lv]
    omega
  have esu : u.size = 2 + (ts.length + (rdRest u).size) := by
    rw [← bytesOf_length, eB, ← bytesOf_length, eRest]
    simp only [List.length_cons, List.length_append]
    omega
  have eE : rdE c0 c1 c4 u = 0 := by
    unfold rdE
    rw [if_neg (by omega), if_neg (by omega), eTs, b1, eA, eBv]
    exact h
  unfold sRead
  rw [if_pos eE, eTs, b1, eA, eBv]
/-- What was read is written as it was. -/
theorem bytes_read {c0 c1 c4 : Int} {u : ByteArray} (h : rdE c0 c1 c4 u = 0) : strOfNums (sBytes (rdTs u) (bt u 1) (rdA c1 c4 u) (rdB c1 c4 u)) = u := by
  have hb0 := bt_range u 0
  have hb1 := bt_range u 1
  unfold rdE at h
  by_cases n1 : (u.size : Int) < 2 + bt u 0
  · rw [if_pos n1] at h
    omega
  rw [if_neg n1] at h
  by_cases n2 : c4 > 4 ∨ c1 > 32 ∨ (rdRest u).size ≠ 2 * (c4.toNat * (rdP u * (c1.toNat * 4)))
  · rw [if_pos n2] at h
    omega
  have hl := rdTs_length u n1
  have hsz : (rdRest u).size = 2 * (c4.toNat * (rdP u * (c1.toNat * 4))) := by omega
  have d1 := lists_dec c4.toNat (rdP u) c1.toNat (rdRest u) (by omega)
  have z1 := lists_size c4.toNat (rdP u) c1.toNat (rdRest u)
  have d2 := lists_dec c4.toNat (rdP u) c1.toNat (takeLists c4.toNat (rdP u) c1.toNat (rdRest u)).2 (by omega)
  have z2 := lists_size c4.toNat (rdP u) c1.toNat (takeLists c4.toNat (rdP u) c1.toNat (rdRest u)).2
  have d3 : bytesOf (takeLists c4.toNat (rdP u) c1.toNat (takeLists c4.toNat (rdP u) c1.toNat (rdRest u)).2).2 = [] := by
    apply List.eq_nil_of_length_eq_zero
    rw [bytesOf_length]
    omega
  have hrng := bytesOf_range u
  have etok : (rdTs u).map (fun t => t % 256) = rdTs u := by
    refine (List.map_congr_left fun t ht => ?_).trans (List.map_id _)
    have := hrng t (List.mem_of_mem_drop (List.mem_of_mem_take ht))
    show t % 256 = t
    omega
  have hlen : 2 ≤ (bytesOf u).length := by rw [bytesOf_length]; omega
  have e2 : ∃ a b t, bytesOf u = a :: b :: t := by
    match hq : bytesOf u, hlen with
    | a :: b :: t, _ => exact ⟨a, b, t, rfl⟩
  obtain ⟨a, b, t, e⟩ := e2
  have b0 : bt u 0 = a := by rw [← rd_bytesOf, e]; rfl
  have b1 : bt u 1 = b := by rw [← rd_bytesOf, e]; rfl
  have eall : sBytes (rdTs u) (bt u 1) (rdA c1 c4 u) (rdB c1 c4 u) = bytesOf u := by
    unfold sBytes
    rw [etok, hl, Int.toNat_of_nonneg hb0.1, show bt u 0 % 256 = bt u 0 by omega, show bt u 1 % 256 = bt u 1 by omega]
    have er : encLists (rdA c1 c4 u) ++ encLists (rdB c1 c4 u) = bytesOf (rdRest u) := by
      rw [d1, d2, d3, List.append_nil]
      rfl
    rw [List.append_assoc, List.append_assoc, er]
    unfold rdRest rdTs
    rw [bytesOf_extract, e, b0, b1, Nat.add_comm 2]
    show a :: b :: (t.take a.toNat ++ t.drop a.toNat) = _
    rw [List.take_append_drop]
  rw [eall, strOfNums_bytesOf]
end Go.Proofs.Ytepbebelbcbciaa.Q
