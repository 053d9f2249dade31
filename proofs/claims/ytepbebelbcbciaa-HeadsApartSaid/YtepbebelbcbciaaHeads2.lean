/- Attention head by head: what the program and the document come to, place by place. Conditions: the bounds that each lemma names. -/
import Derived.Test.YtepbebelbcbciaaQx3
import Derived.Test.YtepbebelbcbciaaQx6
import Derived.Test.YtepbebelbcbciaaEv
import Derived.Test.YtepbebelbcbciaaHeads
import Derived.Test.YtepbebelbcbciaaSoft
import Derived.Test.YtepbebelbcbciaaSoft2
import Derived.Test.YtepbebelbcbciaaSoft3
namespace Go.Proofs.Ytepbebelbcbciaa.Q
open Go.RowKit Go.Proofs.YtepbebelbcbciaaW.PrintWords Go.Proofs.YtepbebelbcbciaaW.PrintLast
set_option linter.unusedVariables false
set_option linter.unusedSimpArgs false

/-- The places from a on, s of them. -/
def sPart (a s : Nat) (r : List Int) : List Int := (r.take (a + s)).drop a
theorem sPart_length {a s : Nat} {r : List Int} (h : a + s ≤ r.length) : (sPart a s r).length = s := by unfold sPart; rw [List.length_drop, List.length_take]; omega
theorem sPart_i32 {a s : Nat} {r : List Int} (h : ∀ x ∈ r, I32 x) : ∀ x ∈ sPart a s r, I32 x := fun x hx => h x (List.mem_of_mem_take (List.mem_of_mem_drop hx))
theorem sPart_rd {a s j : Nat} {r : List Int} (h : a + s ≤ r.length) (hj : j < s) : rd (sPart a s r) (j : Int) = rd r ((a + j : Nat) : Int) := by
  rw [rd_nat _ j (by rw [sPart_length h]; exact hj), rd_nat r (a + j) (by omega)]
  unfold sPart
  rw [List.getElem_drop, List.getElem_take]
theorem parts_ev {rows : List (List Int)} {a s : Nat} (hl : rows.length ≤ 4096) (ha : a + s ≤ 4096) (h : ∀ r ∈ rows, a + s ≤ r.length) :
    Ev (fun k => heads_parts.f k rows (a : Int) ((a + s : Nat) : Int)) (rows.map (sPart a s)) := by
  unfold heads_parts.f
  exact ev_loop rows.length (fun k i (t : List (List Int)) => heads_parts.l0 k (a : Int) ((a + s : Nat) : Int) t rows (rows.length : Int) (i : Int)) (fun i => (rows.take i).map (sPart a s)) (rows.map (sPart a s))
    (fun i hi ih => by
      have hr := h _ (List.getElem_mem hi)
      have hlen : ((rows.take i).map (sPart a s)).length = i := by rw [List.length_map, List.length_take]; omega
      simp only [map_next _ _ i hi] at ih
      refine Ev.step (fun k => heads_parts.l0.eq_2 ..) (ev_pos (by omega) (ev_pos (by omega) (ev_pos (by omega) (ev_pos (by omega) (ev_pos (by omega) ?_)))))
      rw [rdL_nat rows i hi, wrap_next hi (by omega), Int.toNat_natCast, Int.toNat_natCast]
      exact ev_pos (by omega) (ev_pos (by omega) ih))
    (by
      rw [take_all]
      exact Ev.step (fun k => heads_parts.l0.eq_2 ..) (ev_neg (by omega) (Ev.now _))) 0 (by omega)
/-- A head's weights. -/
noncomputable def sHw (q : List Int) (ks : List (List Int)) (a s : Nat) : List Int := sW (ks.map fun r => sScore (sPart a s q) (sPart a s r))
/-- What stands at a place. -/
noncomputable def sAtt (q : List Int) (ks vs : List (List Int)) (s j : Nat) : Int := sDot (sHw q ks (j - j % s) s) (sCol vs j)
noncomputable def sAttend (q : List Int) (ks vs : List (List Int)) (s : Nat) : List Int := (List.range q.length).map (sAtt q ks vs s)
theorem sAttend_length (q : List Int) (ks vs : List (List Int)) (s : Nat) : (sAttend q ks vs s).length = q.length := by unfold sAttend; rw [List.length_map, List.length_range]
theorem sAttend_i32 (q : List Int) (ks vs : List (List Int)) (s : Nat) : ∀ x ∈ sAttend q ks vs s, I32 x := by
  intro x hx
  obtain ⟨j, _, rfl⟩ := List.mem_map.1 hx
  exact i32_sDot _ _
theorem sHw_length (q : List Int) (ks : List (List Int)) (a s : Nat) : (sHw q ks a s).length = ks.length := by unfold sHw; rw [sW_length, List.length_map]
theorem sHw_i32 {q : List Int} {ks : List (List Int)} {a s : Nat} (h : ks ≠ []) : ∀ x ∈ sHw q ks a s, I32 x := by
  intro x hx
  have := sW_bounds (l := ks.map fun r => sScore (sPart a s q) (sPart a s r)) (by simpa using h) x hx
  exact ⟨by omega, by omega⟩
theorem range_add_map {α : Type} (f : Nat → α) (m s : Nat) : (List.range (m + s)).map f = (List.range m).map f ++ (List.range s).map fun i => f (m + i) := by
  rw [List.range_add, List.map_append, List.map_map]
  rfl
theorem sMix_part (q : List Int) (ks vs : List (List Int)) (h s : Nat) (hs : 0 < s) (hv : ∀ r ∈ vs, h * s + s ≤ r.length) :
    sMix (sHw q ks (h * s) s) (vs.map (sPart (h * s) s)) s = (List.range s).map fun i => sAtt q ks vs s (h * s + i) := by
  unfold sMix
  refine List.map_congr_left fun i hi => ?_
  have hi' := List.mem_range.1 hi
  unfold sAtt
  have e1 : (h * s + i) % s = i := by rw [Nat.add_comm, Nat.add_mul_mod_self_right]; exact Nat.mod_eq_of_lt hi'
  have e2 : h * s + i - i = h * s := by omega
  rw [e1, e2]
  congr 1
  unfold sCol
  rw [List.map_map]
  refine List.map_congr_left fun r hr => ?_
  exact sPart_rd (hv r hr) hi'
structure RowsFit (q : List Int) (ks vs : List (List Int)) : Prop where
  q0 : 0 < q.length
  q1 : q.length ≤ 32
  k0 : 0 < ks.length
  k1 : ks.length ≤ 128
  kv : ks.length = vs.length
  rk : ∀ r ∈ ks, r.length = q.length ∧ ∀ x ∈ r, I32 x
  rv : ∀ r ∈ vs, r.length = q.length ∧ ∀ x ∈ r, I32 x
  wq : ∀ x ∈ q, I32 x
theorem rows_of_fits {q : List Int} {ks vs : List (List Int)} {n : Int} (h : Fits q ks vs n) (wq : ∀ x ∈ q, I32 x) (wk : ∀ r ∈ ks, ∀ x ∈ r, I32 x) (wv : ∀ r ∈ vs, ∀ x ∈ r, I32 x) : RowsFit q ks vs := by
  refine ⟨h.q0, h.q1, h.k0, h.k1, h.kv, fun r hr => ⟨?_, wk r hr⟩, fun r hr => ⟨?_, wv r hr⟩, wq⟩
  · obtain ⟨i, hi, rfl⟩ := List.mem_iff_getElem.1 hr
    have := h.rk i hi
    rwa [rdL_nat ks i hi] at this
  · obtain ⟨i, hi, rfl⟩ := List.mem_iff_getElem.1 hr
    have := h.rv i (by rw [h.kv]; exact hi)
    rwa [rdL_nat vs i hi] at this
theorem attend_loop {q : List Int} {ks vs : List (List Int)} {n s : Nat} (R : RowsFit q ks vs) (hs : 0 < s) (hn : n * s = q.length) :
    Ev (fun k => heads_Attend.l0 k q ks vs (s : Int) [] 0) (sAttend q ks vs s, 0) := by
  have q1 := R.q1
  have k1 := R.k1
  have k0 := R.k0
  have kv := R.kv
  have hne : ks ≠ [] := List.length_pos_iff.1 k0
  have hn1 : n ≤ 32 := by
    have : n * 1 ≤ n * s := Nat.mul_le_mul_left _ hs
    omega
  have key := ev_loop n (fun k h (t : List Int) => heads_Attend.l0 k q ks vs (s : Int) t ((h * s : Nat) : Int)) (fun h => (List.range (h * s)).map (sAtt q ks vs s)) (sAttend q ks vs s, 0)
    (fun h hh ih => by
      have hle : (h + 1) * s ≤ n * s := Nat.mul_le_mul_right _ hh
      have e : (h + 1) * s = h * s + s := by rw [Nat.add_mul, Nat.one_mul]
      rw [hn, e] at hle
      have hmix := sMix_part q ks vs h s hs (fun r hr => by rw [(R.rv r hr).1]; exact hle)
      simp only [e, range_add_map] at ih
      rw [← hmix] at ih
      generalize h * s = a at *
      have w : wrap64 ((a : Int) + (s : Int)) = ((a + s : Nat) : Int) := by rw [wrap64_id (by omega) (by omega)]; omega
      have lp : (sPart a s q).length = s := sPart_length hle
      have lk : (ks.map (sPart a s)).length = ks.length := List.length_map _
      have lv : (vs.map (sPart a s)).length = vs.length := List.length_map _
      refine Ev.step (fun k => heads_Attend.l0.eq_2 ..) (ev_pos (by omega) (ev_pos (by omega) ?_))
      rw [w, Int.toNat_natCast, Int.toNat_natCast]
      refine ev_pos (by omega) (ev_pos (by omega) ?_)
      refine Ev.bind (parts_ev (by omega) (by omega) (fun r hr => by rw [(R.rk r hr).1]; exact hle)) ?_
      have sc := scores_ev (q := sPart a s q) (ks := ks.map (sPart a s)) (by omega) (by omega) (sPart_i32 R.wq) (fun r hr => by
        obtain ⟨r0, h0, rfl⟩ := List.mem_map.1 hr
        exact ⟨by rw [lp]; exact sPart_length (by rw [(R.rk r0 h0).1]; exact hle), sPart_i32 (R.rk r0 h0).2⟩)
      refine Ev.bind sc (ev_pos rfl ?_)
      have esc : (ks.map (sPart a s)).map (sScore (sPart a s q)) = ks.map fun r => sScore (sPart a s q) (sPart a s r) := by rw [List.map_map]; rfl
      rw [esc]
      refine Ev.bind (weights_ev (by simpa using hne) (by rw [List.length_map]; omega) (fun x hx => by obtain ⟨r, _, rfl⟩ := List.mem_map.1 hx; exact i32_sScore _ _)) (ev_pos rfl ?_)
      refine Ev.bind (parts_ev (by omega) (by omega) (fun r hr => by rw [(R.rv r hr).1]; exact hle)) ?_
      have hw : ∀ x ∈ sHw q ks a s, I32 x := sHw_i32 hne
      have hwl : (sHw q ks a s).length = ks.length := sHw_length q ks a s
      have mx := mix_ev (w := sHw q ks a s) (rows := vs.map (sPart a s)) (n := s) (List.length_pos_iff.1 (by omega)) (by omega) (by omega) (by omega) (fun r hr => by
        obtain ⟨r0, h0, rfl⟩ := List.mem_map.1 hr
        exact ⟨sPart_length (by rw [(R.rv r0 h0).1]; exact hle), sPart_i32 (R.rv r0 h0).2⟩) hw
      refine Ev.bind mx (ev_pos rfl (ev_pos ?_ ih))
      simp only [List.length_map, List.length_range, sMix_length]
      omega)
    (by
      rw [hn]
      refine Ev.step (fun k => heads_Attend.l0.eq_2 ..) (ev_neg (by omega) (Ev.now _))) 0 (by omega)
  simpa using key
theorem attend_ev {q : List Int} {ks vs : List (List Int)} {n : Int} (F : Fits q ks vs n) (R : RowsFit q ks vs) (hf : Ev (fun k => heads_fit.f k q ks vs n) 0) :
    Ev (fun k => heads_Attend.f k q ks vs n) (sAttend q ks vs (q.length / n.toNat), 0) ∧ 0 < q.length / n.toNat ∧ n.toNat * (q.length / n.toNat) = q.length := by
  have n0 := F.n0
  have n1 := F.n1
  have q0 := F.q0
  have q1 := F.q1
  obtain ⟨m, rfl⟩ := Int.eq_ofNat_of_zero_le (show 0 ≤ n by omega)
  rw [Int.toNat_natCast]
  have dv := F.dv
  have dv' : q.length % m = 0 := by omega
  have hd := Nat.div_add_mod q.length m
  rw [dv', Nat.add_zero] at hd
  have hs : 0 < q.length / m := by
    rcases Nat.eq_zero_or_pos (q.length / m) with h | h
    · rw [h, Nat.mul_zero] at hd
      omega
    · exact h
  refine ⟨?_, hs, hd⟩
  unfold heads_Attend.f
  refine Ev.bind hf (ev_pos rfl (ev_neg (by omega) ?_))
  have e : wrap64 ((q.length : Int) / (m : Int)) = ((q.length / m : Nat) : Int) := by
    rw [← Int.natCast_ediv]
    have := Nat.div_le_self q.length m
    exact wrap64_id (by omega) (by omega)
  rw [e]
  exact attend_loop R hs hd
end Go.Proofs.Ytepbebelbcbciaa.Q
