/- The statement HeadsOne without Go and memory: with one key alone the answer is its value; where all values are one row, the answer is not far from it. No condition but that the rows are ones of a machine. -/
import Derived.Test.YtepbebelbcbciaaQx0
import Derived.Test.YtepbebelbcbciaaQx6
import Derived.Test.YtepbebelbcbciaaQx7
import Derived.Test.YtepbebelbcbciaaQx8
import Derived.Test.YtepbebelbcbciaaAlone
import Derived.Test.YtepbebelbcbciaaAwake07
import Derived.Test.YtepbebelbcbciaaEv
import Derived.Test.YtepbebelbcbciaaHeads
import Derived.Test.YtepbebelbcbciaaHeads2
import Derived.Test.YtepbebelbcbciaaNum
import Derived.Test.YtepbebelbcbciaaSoft3
import Derived.Test.YtepbebelbcbciaaWithin
namespace Go.Proofs.Ytepbebelbcbciaa.Pure
open Go.RowKit Go.Proofs.Ytepbebelbcbciaa.Q Go.Proofs.YtepbebelbcbciaaW.PrintWords Go.Proofs.YtepbebelbcbciaaW.PrintLast
set_option linter.unusedVariables false
set_option linter.unusedSimpArgs false

/-- Equal keys and values: a place of the answer. -/
theorem alike_at (q key val : List Int) (t s j : Nat) (ht : 0 < t) (ht2 : t ≤ 40) (hj : j < q.length) (hv : I32 (rd val j)) :
    rd (sAttend q (List.replicate t key) (List.replicate t val) s) j = sSat (sRnd (t * (65536 / (t : Int) * rd val j))) := by
  rw [rd_nat _ j (by rw [sAttend_length]; exact hj)]
  have e : (sAttend q (List.replicate t key) (List.replicate t val) s)[j]'(by rw [sAttend_length]; exact hj) = sAtt q (List.replicate t key) (List.replicate t val) s j := by
    simp only [sAttend, List.getElem_map, List.getElem_range]
  rw [e]
  unfold sAtt sHw sCol
  rw [List.map_replicate, List.map_replicate, sW_alike t _ ht]
  have hq0 : 0 ≤ 65536 / (t : Int) := Int.ediv_nonneg (by decide) (by omega)
  have hq1 : 65536 / (t : Int) ≤ 65536 := Int.ediv_le_self _ (by decide)
  exact dot_alike t _ _ (by omega) hq0 hq1 hv
theorem rows_replicate (t : Nat) (key : List Int) (q : List Int) (n : Int) (val : List Int) (F : Fits q [key] [val] n) (ht : 0 < t) (ht2 : t ≤ 40) : Fits q (List.replicate t key) (List.replicate t val) n := by
  have k0 : key.length = q.length := F.rk 0 (by simp)
  have v0 : val.length = q.length := F.rv 0 (by simp)
  have hl : ∀ r : List Int, (List.replicate t r).length = t := fun r => List.length_replicate
  have hr : ∀ (r : List Int) (i : Nat), i < t → rd_L1 (List.replicate t r) i = r := fun r i hi => by rw [rdL_nat _ i (by rw [hl]; exact hi), List.getElem_replicate]
  refine ⟨F.n0, F.n1, F.q0, F.q1, by rw [hl]; exact ht, by rw [hl]; omega, F.dv, by rw [hl, hl], fun i hi => ?_, fun i hi => ?_⟩
  · rw [hl] at hi
    rw [hr _ i hi]
    exact k0
  · rw [hl] at hi
    rw [hr _ i hi]
    exact v0
theorem HeadsOne : tillerlaw07_HeadsOne.Pure := by
  intro l0 l1 l2 n times _ h0 g0 _ h1 g1 _ h2 g2 h3 h4
  refine Ev.rounds (?_ : Ev (fun k => tillerlaw07_HeadsOne.f k l0 l1 l2 n times) true)
  unfold tillerlaw07_HeadsOne.f
  refine ev_some (few_v_eq l0 32 h0) (ev_some (few_v_eq l1 32 h1) (ev_some (few_v_eq l2 32 h2) ?_))
  have wq : ∀ x ∈ l0.take 32, I32 x := fun x hx => i32_of_wf (g0 x (List.mem_of_mem_take hx))
  have wk : ∀ x ∈ l1.take 32, I32 x := fun x hx => i32_of_wf (g1 x (List.mem_of_mem_take hx))
  have wv : ∀ x ∈ l2.take 32, I32 x := fun x hx => i32_of_wf (g2 x (List.mem_of_mem_take hx))
  have hlq : (l0.take 32).length ≤ 32 := by rw [List.length_take]; omega
  have hlk : (l1.take 32).length ≤ 32 := by rw [List.length_take]; omega
  have hlv : (l2.take 32).length ≤ 32 := by rw [List.length_take]; omega
  have hti := i64_of_wf h4
  generalize l0.take 32 = q at *
  generalize l1.take 32 = key at *
  generalize l2.take 32 = val at *
  obtain ⟨e, he, hfit⟩ := fit_ev q [key] [val] n (by omega) (by simp) (by simp)
  by_cases c : e = 0
  · subst c
    have F := hfit.1 rfl
    have R := rows_of_fits F wq (fun r hr => by rw [List.mem_singleton.1 hr]; exact wk) (fun r hr => by rw [List.mem_singleton.1 hr]; exact wv)
    have kl : key.length = q.length := F.rk 0 (by simp)
    have vl : val.length = q.length := F.rv 0 (by simp)
    obtain ⟨A, hs, _⟩ := attend_ev F R he
    have hxl := sAttend_length q [key] [val] (q.length / n.toNat)
    have hxj : ∀ j : Nat, j < q.length → rd (sAttend q [key] [val] (q.length / n.toNat)) j = mx (rd val j) (-2147483647) := by
      intro j hj
      have := alike_at q key val 1 (q.length / n.toNat) j (by decide) (by decide) hj (i32_rd wv _)
      rw [show List.replicate 1 key = [key] from rfl, show List.replicate 1 val = [val] from rfl] at this
      rw [this]
      have e1 : (((1 : Nat) : Int) * (65536 / ((1 : Nat) : Int) * rd val j)) = 65536 * rd val j := by
        rw [show ((1 : Nat) : Int) = 1 from rfl, Int.one_mul, Int.ediv_one]
      rw [e1, sRnd_whole, sSat_floor (i32_rd wv _)]
    refine Ev.bind A (ev_pos rfl ?_)
    generalize sAttend q [key] [val] (q.length / n.toNat) = x at *
    refine ev_pos (by dsimp only; omega) ?_
    dsimp only
    -- behind the one key
    have j1 : ∀ b : Bool, (b = false → 2 ≤ times ∧ times ≤ 40) → Ev (fun k => tillerlaw07_HeadsOne.j1 k q key val n times b) true := by
      intro b hb
      refine Ev.step (fun k => tillerlaw07_HeadsOne.j1.eq_2 ..) (ev_if (fun _ => Ev.bind awake07_ev (Ev.now _)) (fun hf => ?_))
      obtain ⟨x0, x1⟩ := hb (by simpa using hf)
      obtain ⟨t, rfl⟩ := Int.eq_ofNat_of_zero_le (show 0 ≤ times by omega)
      have F2 := rows_replicate t key q n val F (by omega) (by omega)
      have R2 := rows_of_fits F2 wq (fun r hr => by rw [List.eq_of_mem_replicate hr]; exact wk) (fun r hr => by rw [List.eq_of_mem_replicate hr]; exact wv)
      obtain ⟨e2, he2, hfit2⟩ := fit_ev q (List.replicate t key) (List.replicate t val) n (by omega) (by rw [List.length_replicate]; omega) (by rw [List.length_replicate]; omega)
      have e20 : e2 = 0 := hfit2.2 F2
      subst e20
      have A2 := (attend_ev F2 R2 he2).1
      have hyl := sAttend_length q (List.replicate t key) (List.replicate t val) (q.length / n.toNat)
      have hyj := fun (j : Nat) (hj : j < q.length) => alike_at q key val t (q.length / n.toNat) j (by omega) (by omega) hj (i32_rd wv _)
      have fk : tillerlaw03_Few_v.f key 32 = some key := by
        have := few_v_eq key 32 (by omega)
        rwa [List.take_of_length_le hlk] at this
      have fv : tillerlaw03_Few_v.f val 32 = some val := by
        have := few_v_eq val 32 (by omega)
        rwa [List.take_of_length_le hlv] at this
      generalize sAttend q (List.replicate t key) (List.replicate t val) (q.length / n.toNat) = y at *
      exact ev_loop t (fun k i (s : List (List Int) × List (List Int)) => tillerlaw07_HeadsOne.l1 k q key val n (t : Int) s.1 s.2 (i : Int)) (fun i => (List.replicate i key, List.replicate i val)) true
        (fun i hi ih => by
          have hl : ∀ r : List Int, (List.replicate i r).length = i := fun r => List.length_replicate
          simp only [List.replicate_succ'] at ih
          refine Ev.step (fun k => tillerlaw07_HeadsOne.l1.eq_2 ..) (ev_pos (by omega) (ev_some fk (ev_pos (by dsimp only; rw [hl]; omega) (ev_some fv (ev_pos (by dsimp only; rw [hl]; omega) ?_)))))
          rw [wrap_next hi (by omega)]
          exact ih)
        (by
          refine Ev.step (fun k => tillerlaw07_HeadsOne.l1.eq_2 ..) (ev_neg (by omega) (Ev.bind A2 (ev_pos rfl ?_)))
          have bz : ((y.length : Int) != (val.length : Int)) = false := by rw [hyl, vl]; simp
          dsimp only
          rw [bz]
          refine Ev.step (fun k => tillerlaw07_HeadsOne.j3.eq_2 ..) (ev_neg (by decide) ?_)
          exact ev_loop val.length (fun k i (_ : Unit) => tillerlaw07_HeadsOne.l2 k val (t : Int) y (val.length : Int) (i : Int)) (fun _ => ()) true
            (fun i hi ih => by
              have hv := i32_rd wv (i : Int)
              have hv1 := hv.1
              have hv2 := hv.2
              have hy := hyj i (by omega)
              have hs := sSat_i32 (sRnd (t * (65536 / (t : Int) * rd val i)))
              have miss : ∀ V : Int, (V = rd val i ∧ 0 ≤ rd val i ∨ V = -rd val i ∧ rd val i < 0) → _ := fun V hV => one_miss (v := rd val i) (t := (t : Int)) (V := V) hv x0 x1 hV
              rw [hy.symm] at hs
              simp only [hy.symm] at miss
              have vt : ∀ V : Int, 0 ≤ V → V ≤ 2147483648 → 0 ≤ V * (t : Int) ∧ V * (t : Int) ≤ 85899345920 := fun V a b => ⟨Int.mul_nonneg a (by omega), by
                have : V * (t : Int) ≤ V * 40 := Int.mul_le_mul_of_nonneg_left x1 a
                omega⟩
              have w1 : wrap64 (wrap64 (rd val i) - wrap64 (rd y i)) = rd val i - rd y i := by
                rw [wrap64_id (x := rd val (i : Int)) (by omega) (by omega), wrap64_id (x := rd y (i : Int)) (by omega) (by omega), wrap64_id (by omega) (by omega)]
              have w2 : wrap64 (-(rd val (i : Int) - rd y (i : Int))) = rd y i - rd val i := by
                rw [wrap64_id (by omega) (by omega)]
                omega
              -- behind how far it misses
              have j5 : ∀ m : Int, (∀ V : Int, (V = rd val i ∧ 0 ≤ rd val i ∨ V = -rd val i ∧ rd val i < 0) → m ≤ V * (t : Int) / 65536 + 1) → Ev (fun k => tillerlaw07_HeadsOne.j5 k val (t : Int) y (i : Int) m (val.length : Int) (i : Int)) true := by
                intro m hm
                refine Ev.step (fun k => tillerlaw07_HeadsOne.j5.eq_2 ..) (ev_pos (by omega) (ev_pos (by omega) ?_))
                rw [wrap64_id (x := rd val (i : Int)) (by omega) (by omega), wrap_next hi (by omega)]
                refine ev_if (fun hneg => ?_) (fun hpos => ?_)
                · have a := hm (-rd val i) (.inr ⟨rfl, hneg⟩)
                  have b := vt (-rd val i) (by omega) (by omega)
                  rw [wrap64_id (x := -rd val (i : Int)) (by omega) (by omega)]
                  generalize -rd val (i : Int) * (t : Int) = z at *
                  rw [wrap64_id (x := z) (by omega) (by omega), tdiv_pos b.1, wrap64_id (x := z / 65536) (by omega) (by omega), wrap64_id (x := z / 65536 + 1) (by omega) (by omega)]
                  exact ev_neg (by omega) ih
                · have a := hm (rd val i) (.inl ⟨rfl, by omega⟩)
                  have b := vt (rd val i) (by omega) (by omega)
                  generalize rd val (i : Int) * (t : Int) = z at *
                  rw [wrap64_id (x := z) (by omega) (by omega), tdiv_pos b.1, wrap64_id (x := z / 65536) (by omega) (by omega), wrap64_id (x := z / 65536 + 1) (by omega) (by omega)]
                  exact ev_neg (by omega) ih
              refine Ev.step (fun k => tillerlaw07_HeadsOne.l2.eq_2 ..) (ev_pos (by omega) (ev_pos (by omega) (ev_pos (by omega) (ev_pos (by omega) ?_))))
              rw [w1, w2]
              exact ev_if (fun _ => j5 _ (fun V hV => (miss V hV).2)) (fun _ => j5 _ (fun V hV => (miss V hV).1)))
            (Ev.step (fun k => tillerlaw07_HeadsOne.l2.eq_2 ..) (ev_neg (by omega) (Ev.bind awake07_ev (Ev.now _)))) 0 (by omega)) 0 (by omega)
    exact ev_loop val.length (fun k i (_ : Unit) => tillerlaw07_HeadsOne.l0 k q key val n times x (val.length : Int) (i : Int)) (fun _ => ()) true
      (fun i hi ih => by
        refine Ev.step (fun k => tillerlaw07_HeadsOne.l0.eq_2 ..) (ev_pos (by omega) (ev_pos (by omega) (ev_pos (by omega) (ev_pos (by omega) (ev_pos (hxj i (by omega)) ?_)))))
        rw [wrap_next hi (by omega)]
        exact ih)
      (Ev.step (fun k => tillerlaw07_HeadsOne.l0.eq_2 ..) (ev_neg (by omega) (ev_if (fun _ => j1 true (fun h => by cases h)) (fun c => j1 _ (fun h => by
        have := of_decide_eq_false h
        omega))))) 0 (by omega)
  · have A : Ev (fun k => heads_Attend.f k q [key] [val] n) ([], e) := by
      unfold heads_Attend.f
      exact Ev.bind he (ev_neg c (Ev.now _))
    exact Ev.bind A (ev_neg c (Ev.bind awake07_ev (ev_pos rfl (Ev.now _))))
end Go.Proofs.Ytepbebelbcbciaa.Pure
