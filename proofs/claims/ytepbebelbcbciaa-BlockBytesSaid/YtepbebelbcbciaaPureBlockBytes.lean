/- The statement BlockBytes without Go and memory: a block that is right is written in one way and reads back, and what any bytes read as is written back. No condition but that the blocks are ones of a machine. -/
import Derived.Test.YtepbebelbcbciaaPgBlockBytes
import Derived.Test.YtepbebelbcbciaaBlock
import Derived.Test.YtepbebelbcbciaaCut
import Derived.Test.YtepbebelbcbciaaEv
import Derived.Test.YtepbebelbcbciaaFlow
import Derived.Test.YtepbebelbcbciaaOpen
import Derived.Test.YtepbebelbcbciaaYWords
namespace Go.Proofs.Ytepbebelbcbciaa.Pure
open Go.RowKit Go.Proofs.Ytepbebelbcbciaa.Q Go.Proofs.YtepbebelbcbciaaW.PrintWords Go.Proofs.YtepbebelbcbciaaW.PrintLast
set_option linter.unusedVariables false
set_option linter.unusedSimpArgs false

theorem awake11_ev : Ev (fun k => tillerlaw11_awake.f k) true := Ev.of tillerlaw11_awake.mono (k := 60) (by decide +kernel)
theorem rows32_of {l : List (List (List Int))} (h : WfRow 24 (WfRow 24 (WfRow 4 (WfInt .i32))) l) : ∀ r ∈ l, Rows32 r :=
  fun x hx r hr => ⟨((h.2 x hx).2 r hr).1, fun n hn => i32_of_wf (((h.2 x hx).2 r hr).2 n hn)⟩
/-- What was read is small. -/
theorem read_cut {c0 c1 c4 : Int} {u : ByteArray} (h : rdE c0 c1 c4 u = 0) : (rdTs u).length ≤ 128 ∧ Cut5 (rdA c1 c4 u) ∧ Cut5 (rdB c1 c4 u) := by
  unfold rdE at h
  by_cases n1 : (u.size : Int) < 2 + bt u 0
  · rw [if_pos n1] at h
    omega
  rw [if_neg n1] at h
  by_cases n2 : c4 > 4 ∨ c1 > 32 ∨ (rdRest u).size ≠ 2 * (c4.toNat * (rdP u * (c1.toNat * 4)))
  · rw [if_pos n2] at h
    omega
  rw [if_neg n2] at h
  obtain ⟨a1, a2, a3, a4, _⟩ := sCheck_zero h
  have hl := rdTs_length u n1
  have hb := bt_range u 0
  have hP : rdP u ≤ 16 := by unfold rdP; omega
  have key : ∀ t, Cut5 (takeLists c4.toNat (rdP u) c1.toNat t).1 := fun t => by
    obtain ⟨q1, q2⟩ := lists_shape c4.toNat (rdP u) c1.toNat t
    exact ⟨by omega, fun x hx => ⟨by have := (q2 x hx).1; omega, fun r hr => ⟨by have := (q2 x hx).2 r hr; omega, lists_i32 _ _ _ _ x hx r hr⟩⟩⟩
  exact ⟨by omega, key _, key _⟩
theorem tail_ev (c0 c1 c2 c3 c4 : Int) (u : ByteArray) (hu : u.size ≤ 140737488351232) : Ev (fun k => tillerlaw11_BlockBytes.j3 k u c0 c1 c2 c3 c4) true := by
  refine Ev.step (fun k => tillerlaw11_BlockBytes.j3.eq_2 ..) ?_
  refine Ev.bind (blockRead_ev c0 c1 c2 c3 c4 u hu) (Ev.bind (refRead_ev c0 c1 c2 c3 c4 u hu) (ev_pos rfl ?_))
  unfold sRead
  by_cases h : rdE c0 c1 c4 u = 0
  · rw [if_pos h]
    obtain ⟨h1, h2, h3⟩ := read_cut h
    have ht := told_ev (rdTs u) (bt u 1) (rdA c1 c4 u) (rdB c1 c4 u) (by omega) h2.rows h3.rows
    rw [List.take_of_length_le (by omega), lists5_again h2, lists5_again h3] at ht
    refine Ev.bind ht (Ev.bind (same11_ev (rdTs u) (bt u 1) (rdA c1 c4 u) (rdB c1 c4 u) (by omega) h2.small.held h3.small.held) (ev_pos rfl (ev_pos rfl ?_)))
    refine Ev.bind (refBytes_ev (rdTs u) (bt u 1) (rdA c1 c4 u) (rdB c1 c4 u) (by omega) h2.small h3.small) ?_
    rw [bytes_read h]
    exact ev_eq (Ev.now _) (by simp)
  · rw [if_neg h]
    have c0_ : Cut5 [] := ⟨by simp, fun x hx => by cases hx⟩
    have ht := told_ev [] 0 [] [] (by simp) c0_.rows c0_.rows
    rw [List.take_nil, lists5_again c0_] at ht
    exact Ev.bind ht (Ev.bind (same11_ev [] 0 [] [] (by simp) c0_.small.held c0_.small.held) (ev_pos rfl (ev_neg h (Ev.now _))))
theorem cut_ev (c0 c1 c2 c3 c4 : Int) (s : ByteArray) (hs : s.size ≤ 140737488351232) : Ev (fun k => tillerlaw11_BlockBytes.j2 k s c0 c1 c2 c3 c4) true := by
  refine Ev.step (fun k => tillerlaw11_BlockBytes.j2.eq_2 ..) (ev_if (fun h => ev_pos (by omega) (ev_pos (by omega) (tail_ev c0 c1 c2 c3 c4 _ ?_))) (fun _ => tail_ev c0 c1 c2 c3 c4 s hs))
  rw [← bytesOf_length, bytesOf_take, List.length_take]
  omega
theorem BlockBytes : tillerlaw11_BlockBytes.PureG := by
  intro x0 x1 s w0 w1 w2
  refine Ev.rounds (?_ : Ev (fun k => tillerlaw11_BlockBytes.f k x0.f0 x0.f1 x0.f2 x0.f3 x0.f4 x1.f0 x1.f1 x1.f2.f0 x1.f2.f1 s) true)
  obtain ⟨wt, wf, wk, wv⟩ := w1
  have rk := rows32_of wk
  have rv := rows32_of wv
  have hf := (i64_of_wf wf).2
  have ht := told_ev x1.f0 x1.f1 x1.f2.f0 x1.f2.f1 wt.1 rk rv
  have ck := lists5_cut rk
  have cv := lists5_cut rv
  have lt_ : (x1.f0.take 140).length ≤ 140 := by rw [List.length_take]; omega
  unfold tillerlaw11_BlockBytes.f
  refine Ev.bind ht ?_
  generalize x1.f0.take 140 = ts at *
  generalize lists5 x1.f2.f0 = ks at *
  generalize lists5 x1.f2.f1 = vs at *
  generalize x1.f1 = fr at *
  generalize x0.f0 = c0 at *
  generalize x0.f1 = c1 at *
  generalize x0.f2 = c2 at *
  generalize x0.f3 = c3 at *
  generalize x0.f4 = c4 at *
  have ho := of_ev ts fr ks vs (by omega) ck.rows cv.rows
  have ht2 := told_ev ts fr ks vs (by omega) ck.rows cv.rows
  rw [List.take_of_length_le (by omega), lists5_again ck, lists5_again cv] at ho ht2
  refine Ev.bind ho (Ev.bind (blockBytes_ev c0 c1 c2 c3 c4 ts fr ks vs (by omega) ck.small cv.small hf) (Ev.bind (refCheck_ev c0 c1 c2 c3 c4 ts fr ks vs (by omega) ck.small.held cv.small.held hf) (Ev.bind awake11_ev (ev_pos rfl (ev_pos rfl ?_)))))
  have tail := cut_ev c0 c1 c2 c3 c4 s w2
  have skip : ∀ t : ByteArray, Ev (fun k => tillerlaw11_BlockBytes.j1 k s t false c0 c1 c2 c3 c4 ts fr ks vs) true := fun t => Ev.step (fun k => tillerlaw11_BlockBytes.j1.eq_2 ..) (ev_neg (by simp) tail)
  by_cases h : sCheck c0 c1 c4 ts fr ks vs = 0
  · rw [if_pos h, h]
    refine ev_pos rfl ?_
    refine Ev.step (fun k => tillerlaw11_BlockBytes.j0.eq_2 ..) (ev_neg (by simp) (ev_pos rfl (ev_if (fun h4 => ev_if (fun h1 => ?_) (fun _ => skip _)) (fun _ => skip _))))
    by_cases h0 : c0 ≤ 64
    · rw [decide_eq_true h0]
      have hr := blockRead_ev c0 c1 c2 c3 c4 (strOfNums (sBytes ts fr ks vs)) (by
        have b1 := encLists_len ck.small
        have b2 := encLists_len cv.small
        rw [strOfNums_size]
        unfold sBytes
        simp only [List.length_append, List.length_map, List.length_cons, List.length_nil]
        omega)
      rw [read_bytes h h4 h1 h0 (fun x hx r hr => ((ck.2 x hx).2 r hr).2) (fun x hx r hr => ((cv.2 x hx).2 r hr).2)] at hr
      refine Ev.step (fun k => tillerlaw11_BlockBytes.j1.eq_2 ..) (ev_pos rfl (Ev.bind hr (Ev.bind (refBytes_ev ts fr ks vs (by omega) ck.small cv.small) (ev_pos rfl (ev_pos rfl (Ev.bind ht2 ?_))))))
      exact Ev.bind (same11_ev ts fr ks vs (by omega) ck.small.held cv.small.held) (ev_pos rfl tail)
    · rw [decide_eq_false h0]
      exact skip _
  · rw [if_neg h]
    refine ev_neg h ?_
    refine Ev.step (fun k => tillerlaw11_BlockBytes.j0.eq_2 ..) (ev_neg (by simp) (ev_neg h (skip _)))
end Go.Proofs.Ytepbebelbcbciaa.Pure
