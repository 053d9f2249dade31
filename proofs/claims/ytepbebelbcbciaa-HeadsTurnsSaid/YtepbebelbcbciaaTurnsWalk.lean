/- The walk of HeadsTurns: two rows of keys and of values change places. No condition but those that the theorems name. Its frame is a text of the print, turned by hand. -/
import Derived.Test.YtepbebelbcbciaaQx0
import Derived.Test.YtepbebelbcbciaaQx1
import Derived.Test.YtepbebelbcbciaaQx6
import Derived.Test.YtepbebelbcbciaaQx7
import Derived.Test.YtepbebelbcbciaaOpen
import Derived.Test.YtepbebelbcbciaaYWords
namespace Go.Proofs.Ytepbebelbcbciaa.Q
open Go.RowKit Go.Proofs.YtepbebelbcbciaaW.PrintWords Go.Proofs.YtepbebelbcbciaaW.PrintLast Go.Proofs.YtepbebelbcbciaaW.PrintMore
set_option linter.unusedVariables false
set_option linter.unusedSimpArgs false
attribute [local go_sem] max2_int min2_int max_two min_two max_three min_three max_four min_four   -- for this text's walks alone
theorem addr_at (g k : Nat) : (⟨g, 0, none⟩ : Addr).add k = ⟨g, k, none⟩ := by
  unfold Addr.add
  by_cases h : k = 0
  · simp [h]
  · simp [h]
/-- A row of rows of the call's own, two of whose elements have changed places, as it reads. -/
theorem swap_reads {α : Type} {d : Kd α} {e base : Nat} {W W2 : World} {ok : Nat → Prop} {g n cap : Nat} {xs : List α} (z : α) (h : d.R e W base ok (.slice (some ⟨g, 0, none⟩) n cap) xs) (h1 : d.sz = 1) (i j : Nat) (hi : i < xs.length) (hj : j < xs.length) (ui uj : Value)
    (hui : W.cell? ⟨g, i, none⟩ = some ui) (huj : W.cell? ⟨g, j, none⟩ = some uj)
    (hheap : ∀ k, ok k → k ≠ g → W2.heap[k]? = W.heap[k]?)
    (hcell : ∀ m, m < xs.length → W2.cell? ⟨g, m, none⟩ = if m = j then some ui else if m = i then some uj else W.cell? ⟨g, m, none⟩) :
    d.C W2 (some ⟨g, 0, none⟩) xs.length ((xs.set i (xs.getD j z)).set j (xs.getD i z)) := by
  obtain ⟨hn, hnc, hC⟩ := Kd.R_reads' h
  refine ⟨by simp, hC.2.1, fun _ => ⟨_, rfl, fun m p hm => ?_⟩⟩
  have hml : m < xs.length := by
    have := (List.getElem?_eq_some_iff.1 hm).1
    simpa using this
  have key : ∃ s, s < xs.length ∧ p = xs.getD s z ∧ W2.cell? ⟨g, m, none⟩ = W.cell? ⟨g, s, none⟩ := by
    by_cases c1 : m = j
    · subst c1
      refine ⟨i, hi, ?_, ?_⟩
      · rw [List.getElem?_set] at hm
        simp [hml] at hm
        rw [← hm]
        simp
      · rw [hcell m hml, if_pos rfl, hui]
    · by_cases c2 : m = i
      · subst c2
        refine ⟨j, hj, ?_, ?_⟩
        · rw [List.getElem?_set_ne (fun e => c1 e.symm), List.getElem?_set] at hm
          simp [hml] at hm
          rw [← hm]
          simp
        · rw [hcell m hml, if_neg c1, if_pos rfl, huj]
      · refine ⟨m, hml, ?_, ?_⟩
        · rw [List.getElem?_set_ne (fun e => c1 e.symm), List.getElem?_set_ne (fun e => c2 e.symm)] at hm
          rw [List.getD_eq_getElem?_getD, hm]
          rfl
        · rw [hcell m hml, if_neg c1, if_neg c2]
  obtain ⟨s, hs, rfl, hc⟩ := key
  obtain ⟨c, hcl, hM, hcc, _⟩ := Kd.R_elem h z (s : Int) (by omega) (by omega)
  rw [Int.toNat_natCast] at hM hcc
  refine ⟨c, hcl, d.K_of_M (Kd.M_step hM (fun k hk _ => hheap k hk.1 hk.2)), fun q u hu => ?_⟩
  have hq : q = 0 := by
    have := (List.getElem?_eq_some_iff.1 hu).1
    omega
  subst hq
  have := hcc 0 u hu
  rw [h1, Nat.mul_one, Nat.add_zero] at this
  rw [addr_at, h1, Nat.mul_one, Nat.add_zero, hc]
  exact this
theorem own_form {α : Type} {d : Kd α} {e base : Nat} {W : World} {ok : Nat → Prop} {v : Value} {xs : List α} (h : d.R e W base ok v xs) (hp : 0 < xs.length) : ∃ g c, v = .slice (some ⟨g, 0, none⟩) xs.length c ∧ xs.length ≤ c ∧ ok g := by
  obtain ⟨A, c, rfl, hc, hC⟩ := Kd.R_reads h
  obtain ⟨ad, rfl, _⟩ := hC.2.2 hp
  obtain ⟨g, rfl⟩ := Kd.R_head h
  exact ⟨g, c, rfl, hc, h.1 g (by simp [Value.ownBlock])⟩
theorem own_cell {α : Type} {d : Kd α} {t e base : Nat} {W : World} {ok : Nat → Prop} {g n cap : Nat} {xs : List (List α)} (h : (Kd.slice t d).R e W base ok (.slice (some ⟨g, 0, none⟩) n cap) xs) (i : Int) (h0 : 0 ≤ i) (h1 : i < n) :
    ∃ A l c, W.cell? ⟨g, i.toNat, none⟩ = some (.slice A l c) ∧ W.frozen? ⟨g, i.toNat, none⟩ = false := by
  obtain ⟨c, hcl, hM, hcc, hf⟩ := Kd.R_elem h [] i h0 h1
  obtain ⟨A, cc, hce, _⟩ := (Kd.slice t d).K_of_M hM
  subst hce
  have h2 := hcc 0 _ rfl
  have h3 := hf 0
  have hs : (Kd.slice t d).sz = 1 := rfl
  rw [hs, Nat.mul_one, Nat.add_zero] at h2 h3
  exact ⟨A, _, cc, h2, h3⟩
theorem turned {W : World} {g i j : Nat} {ui uj : Value} (hi : W.cell? ⟨g, i, none⟩ = some ui) (hj : W.cell? ⟨g, j, none⟩ = some uj) :
    (∀ k, k ≠ g → ((W.setCell ⟨g, i, none⟩ uj).setCell ⟨g, j, none⟩ ui).heap[k]? = W.heap[k]?) ∧ (∀ m, ((W.setCell ⟨g, i, none⟩ uj).setCell ⟨g, j, none⟩ ui).cell? ⟨g, m, none⟩ = if m = j then some ui else if m = i then some uj else W.cell? ⟨g, m, none⟩) ∧ ∀ a : Addr, a.block ≠ g → ((W.setCell ⟨g, i, none⟩ uj).setCell ⟨g, j, none⟩ ui).cell? a = W.cell? a := by
  refine ⟨fun k hk => (Below.heap_setCell _ _ _ k hk).trans (Below.heap_setCell _ _ _ k hk), fun m => ?_, fun a ha => (cell_far ha _).trans (cell_far ha _)⟩
  have ne : ∀ a b : Nat, a ≠ b → (⟨g, a, none⟩ : Addr) ≠ ⟨g, b, none⟩ := fun a b h e => h (by injection e)
  by_cases c1 : m = j
  · subst c1
    rw [if_pos rfl]
    by_cases c2 : m = i
    · subst c2
      exact World.cell?_setCell_same _ _ _ (World.cell?_setCell_same _ _ _ hi)
    · refine World.cell?_setCell_same _ _ _ (u := uj) ?_
      rw [World.cell?_setCell_other _ _ _ _ (ne i m (fun e => c2 e.symm))]
      exact hj
  · rw [if_neg c1, World.cell?_setCell_other _ _ _ _ (ne j m (fun e => c1 e.symm))]
    by_cases c2 : m = i
    · subst c2
      rw [if_pos rfl]
      exact World.cell?_setCell_same _ _ _ hi
    · rw [if_neg c2, World.cell?_setCell_other _ _ _ _ (ne i m (fun e => c2 e.symm))]
theorem calls_len {P : Program} {f : FuncId} {x0 x3 : Value} {A1 A2 : Option Addr} {n1 n1' n2 n2' c1 c2 : Nat} {w : World} {Q0 Q : Ending → World → Prop} (h1 : n1' = n1) (h2 : n2' = n2)
    (h : Calls P f #[x0, .slice A1 n1' c1, .slice A2 n2' c2, x3] w Q0) (k : ∀ e w', Q0 e w' → Q e w') : Calls P f #[x0, .slice A1 n1 c1, .slice A2 n2 c2, x3] w Q := by
  subst h1
  subst h2
  exact h.mono fun {e} {w'} hq => k e w' hq
/-- Two rows change places. -/
def swapRows (l : List (List Int)) (i j : Int) : List (List Int) := (l.set i.toNat (l.getD j.toNat [])).set j.toNat (l.getD i.toNat [])
def tillerlaw07_HeadsTurns.j0 : Nat → List Int → List (List Int) → List (List Int) → Int → Int → Int → List Int → Bool → Option (Bool)
  | 0, _, _, _, _, _, _, _, _ => none
  | k + 1, x0, x1, x2, x3, x4, x5, x13, x54 => if x54 = true then ((tillerlaw07_awake.f k).bind fun t256 => (some t256)) else ((tillerlaw05_Rows.f k x1 60).bind fun t257 => ((tillerlaw05_Rows.f k x2 60).bind fun t260 => (if (0 ≤ x4 ∧ 0 ≤ x5 ∧ x4 < (t257.length : Int) ∧ x5 < (t257.length : Int) ∧ t257.length = t260.length) then ((heads_Attend.f k x0 (swapRows t257 x4 x5) (swapRows t260 x4 x5) x3).bind fun bt263 => ((tillerlaw07_awake.f k).bind fun t267 => (if t267 = true then (if bt263.2 = 0 then ((tillerref03_Same.f k x13 bt263.1).bind fun t268 => (some t268)) else (some false)) else (some false)))) else none)))
def tillerlaw07_HeadsTurns.f (k : Nat) (l0 : List Int) (l1 : List (List Int)) (l2 : List (List Int)) (a3 : Int) (a4 : Int) (a5 : Int) : Option (Bool) := (tillerlaw03_Few.f l0 32).bind fun t243 => ((tillerlaw05_Rows.f k l1 60).bind fun t246 => ((tillerlaw05_Rows.f k l2 60).bind fun t249 => ((heads_Attend.f k t243 t246 t249 a3).bind fun bt252 => (if bt252.2 = 0 then (if a4 < 0 then (tillerlaw07_HeadsTurns.j0 k t243 t246 t249 a3 a4 a5 bt252.1 true) else (if a5 < 0 then (tillerlaw07_HeadsTurns.j0 k t243 t246 t249 a3 a4 a5 bt252.1 true) else (if a4 ≥ (t246.length : Int) then (tillerlaw07_HeadsTurns.j0 k t243 t246 t249 a3 a4 a5 bt252.1 true) else (tillerlaw07_HeadsTurns.j0 k t243 t246 t249 a3 a4 a5 bt252.1 (decide (a5 ≥ (t246.length : Int))))))) else (tillerlaw07_HeadsTurns.j0 k t243 t246 t249 a3 a4 a5 bt252.1 true)))))
theorem tillerlaw07_HeadsTurns.mono_l : ∀ k, (∀ y0 y1 y2 y3 y4 y5 y6 y7, LeO (tillerlaw07_HeadsTurns.j0 k y0 y1 y2 y3 y4 y5 y6 y7) (tillerlaw07_HeadsTurns.j0 (k + 1) y0 y1 y2 y3 y4 y5 y6 y7))
  | 0 => fun _ _ _ _ _ _ _ _ r h => by simp [tillerlaw07_HeadsTurns.j0] at h
  | k + 1 => by
    have ih0 := tillerlaw07_HeadsTurns.mono_l k
    · intro y0 y1 y2 y3 y4 y5 y6 y7
      unfold tillerlaw07_HeadsTurns.j0
      repeat' first
      | (with_reducible exact ih0 _ _ _ _ _ _ _ _)
      | (with_reducible exact heads_Attend.mono _ _ _ _ _)
      | (with_reducible exact tillerlaw05_Rows.mono _ _ _)
      | (with_reducible exact tillerlaw07_awake.mono _)
      | (with_reducible exact tillerref03_Same.mono _ _ _)
      | (with_reducible exact LeO.refl _)
      | (with_reducible exact LeO.none _)
      | (with_reducible refine LeO.ite ?_ ?_)
      | (with_reducible refine LeO.bind ?_ (fun _ => ?_))
      | exact ih0 _ _ _ _ _ _ _ _
      | exact heads_Attend.mono _ _ _ _ _
      | exact tillerlaw05_Rows.mono _ _ _
      | exact tillerlaw07_awake.mono _
      | exact tillerref03_Same.mono _ _ _
      | exact LeO.none _
      | refine LeO.ite ?_ ?_
      | refine LeO.bind ?_ (fun _ => ?_)
theorem tillerlaw07_HeadsTurns.mono : ∀ a0 a1 a2 a3 a4 a5 k, LeO (tillerlaw07_HeadsTurns.f k a0 a1 a2 a3 a4 a5) (tillerlaw07_HeadsTurns.f (k + 1) a0 a1 a2 a3 a4 a5) := by
  intro a0 a1 a2 a3 a4 a5 k
  have ih0 := tillerlaw07_HeadsTurns.mono_l k
  unfold tillerlaw07_HeadsTurns.f
  repeat' first
      | (with_reducible exact ih0 _ _ _ _ _ _ _ _)
      | (with_reducible exact heads_Attend.mono _ _ _ _ _)
      | (with_reducible exact tillerlaw05_Rows.mono _ _ _)
      | (with_reducible exact tillerlaw07_awake.mono _)
      | (with_reducible exact tillerref03_Same.mono _ _ _)
      | (with_reducible exact LeO.refl _)
      | (with_reducible exact LeO.none _)
      | (with_reducible refine LeO.ite ?_ ?_)
      | (with_reducible refine LeO.bind ?_ (fun _ => ?_))
      | exact ih0 _ _ _ _ _ _ _ _
      | exact heads_Attend.mono _ _ _ _ _
      | exact tillerlaw05_Rows.mono _ _ _
      | exact tillerlaw07_awake.mono _
      | exact tillerref03_Same.mono _ _ _
      | exact LeO.none _
      | refine LeO.ite ?_ ?_
      | refine LeO.bind ?_ (fun _ => ?_)
set_option maxHeartbeats 8000000 in
set_option maxRecDepth 100000 in
theorem tillerlaw07_HeadsTurns.calls (k : Nat) (A0 : Option Addr) (c0 : Nat) (l0 : List Int) (A1 : Option Addr) (c1 : Nat) (l1 : List (List Int)) (A2 : Option Addr) (c2 : Nat) (l2 : List (List Int)) (a3 : Int) (a4 : Int) (a5 : Int) (r : Bool) (w : World) (hr0 : Kd.C (Kd.int .i32) w A0 l0.length l0) (hc0 : l0.length ≤ c0) (hr1 : Kd.C (Kd.slice 72 (Kd.int .i32)) w A1 l1.length l1) (hc1 : l1.length ≤ c1) (hr2 : Kd.C (Kd.slice 72 (Kd.int .i32)) w A2 l2.length l2) (hc2 : l2.length ≤ c2) (h : tillerlaw07_HeadsTurns.f k l0 l1 l2 a3 a4 a5 = some r) :
    Calls Try.prog 9 #[.slice A0 l0.length c0, .slice A1 l1.length c1, .slice A2 l2.length c2, .int .i64 a3, .int .i64 a4, .int .i64 a5] w fun e w' => e = .returned (.bool r) ∧ Below w.heap.size w w' := by
  have HR0 := Aside0.mk hr0
  have HC0 := Aside0.mk hc0
  clear hr0 hc0
  have HR1 := Aside0.mk hr1
  have HC1 := Aside0.mk hc1
  clear hr1 hc1
  have HR2 := Aside0.mk hr2
  have HC2 := Aside0.mk hc2
  clear hr2 hc2
  have HB := Aside0.mk (Below.refl w.heap.size w)
  have H : ((tillerlaw03_Few.f l0 32).bind fun t243 => ((tillerlaw05_Rows.f k l1 60).bind fun t246 => ((tillerlaw05_Rows.f k l2 60).bind fun t249 => ((heads_Attend.f k t243 t246 t249 a3).bind fun bt252 => (if bt252.2 = 0 then (if a4 < 0 then (tillerlaw07_HeadsTurns.j0 k t243 t246 t249 a3 a4 a5 bt252.1 true) else (if a5 < 0 then (tillerlaw07_HeadsTurns.j0 k t243 t246 t249 a3 a4 a5 bt252.1 true) else (if a4 ≥ (t246.length : Int) then (tillerlaw07_HeadsTurns.j0 k t243 t246 t249 a3 a4 a5 bt252.1 true) else (tillerlaw07_HeadsTurns.j0 k t243 t246 t249 a3 a4 a5 bt252.1 (decide (a5 ≥ (t246.length : Int))))))) else (tillerlaw07_HeadsTurns.j0 k t243 t246 t249 a3 a4 a5 bt252.1 true)))))) = some r := h
  clear h
  replace H := Option.bind_eq_some_iff.mp H
  obtain ⟨t243, A70, H⟩ := H
  replace H : ((tillerlaw05_Rows.f k l1 60).bind fun t246 => ((tillerlaw05_Rows.f k l2 60).bind fun t249 => ((heads_Attend.f k t243 t246 t249 a3).bind fun bt252 => (if bt252.2 = 0 then (if a4 < 0 then (tillerlaw07_HeadsTurns.j0 k t243 t246 t249 a3 a4 a5 bt252.1 true) else (if a5 < 0 then (tillerlaw07_HeadsTurns.j0 k t243 t246 t249 a3 a4 a5 bt252.1 true) else (if a4 ≥ (t246.length : Int) then (tillerlaw07_HeadsTurns.j0 k t243 t246 t249 a3 a4 a5 bt252.1 true) else (tillerlaw07_HeadsTurns.j0 k t243 t246 t249 a3 a4 a5 bt252.1 (decide (a5 ≥ (t246.length : Int))))))) else (tillerlaw07_HeadsTurns.j0 k t243 t246 t249 a3 a4 a5 bt252.1 true))))) = some r := H
  have A7 := Aside0.mk A70
  clear A70
  replace H := Option.bind_eq_some_iff.mp H
  obtain ⟨t246, A80, H⟩ := H
  replace H : ((tillerlaw05_Rows.f k l2 60).bind fun t249 => ((heads_Attend.f k t243 t246 t249 a3).bind fun bt252 => (if bt252.2 = 0 then (if a4 < 0 then (tillerlaw07_HeadsTurns.j0 k t243 t246 t249 a3 a4 a5 bt252.1 true) else (if a5 < 0 then (tillerlaw07_HeadsTurns.j0 k t243 t246 t249 a3 a4 a5 bt252.1 true) else (if a4 ≥ (t246.length : Int) then (tillerlaw07_HeadsTurns.j0 k t243 t246 t249 a3 a4 a5 bt252.1 true) else (tillerlaw07_HeadsTurns.j0 k t243 t246 t249 a3 a4 a5 bt252.1 (decide (a5 ≥ (t246.length : Int))))))) else (tillerlaw07_HeadsTurns.j0 k t243 t246 t249 a3 a4 a5 bt252.1 true)))) = some r := H
  have A8 := Aside0.mk A80
  clear A80
  replace H := Option.bind_eq_some_iff.mp H
  obtain ⟨t249, A90, H⟩ := H
  replace H : ((heads_Attend.f k t243 t246 t249 a3).bind fun bt252 => (if bt252.2 = 0 then (if a4 < 0 then (tillerlaw07_HeadsTurns.j0 k t243 t246 t249 a3 a4 a5 bt252.1 true) else (if a5 < 0 then (tillerlaw07_HeadsTurns.j0 k t243 t246 t249 a3 a4 a5 bt252.1 true) else (if a4 ≥ (t246.length : Int) then (tillerlaw07_HeadsTurns.j0 k t243 t246 t249 a3 a4 a5 bt252.1 true) else (tillerlaw07_HeadsTurns.j0 k t243 t246 t249 a3 a4 a5 bt252.1 (decide (a5 ≥ (t246.length : Int))))))) else (tillerlaw07_HeadsTurns.j0 k t243 t246 t249 a3 a4 a5 bt252.1 true))) = some r := H
  have A9 := Aside0.mk A90
  clear A90
  replace H := Option.bind_eq_some_iff.mp H
  obtain ⟨⟨t252, t253⟩, A100, H⟩ := H
  replace H : (if t253 = 0 then (if a4 < 0 then (tillerlaw07_HeadsTurns.j0 k t243 t246 t249 a3 a4 a5 t252 true) else (if a5 < 0 then (tillerlaw07_HeadsTurns.j0 k t243 t246 t249 a3 a4 a5 t252 true) else (if a4 ≥ (t246.length : Int) then (tillerlaw07_HeadsTurns.j0 k t243 t246 t249 a3 a4 a5 t252 true) else (tillerlaw07_HeadsTurns.j0 k t243 t246 t249 a3 a4 a5 t252 (decide (a5 ≥ (t246.length : Int))))))) else (tillerlaw07_HeadsTurns.j0 k t243 t246 t249 a3 a4 a5 t252 true)) = some r := H
  have A10 := Aside0.mk A100
  clear A100
  have HC11 := Aside0.mk H
  clear H
  go_enter Try.func9, Try.ntmps9
  go_upto_region 3 with (first | ((with_reducible refine gate_callee (f := 26) rfl ?_); refine goesL_ (some 20) rfl rfl Try.func26 (by kernel_rfl) rfl #[.slice A0 l0.length c0, .int .i64 32] rfl (by (try simp only [List.map_toArray, List.map_cons, List.map_nil]); first | done | rfl | (simp only [List.length_drop, List.length_take]; rfl)) ?_; (with_reducible refine (tillerlaw03_Few.calls _ _ l0 32 t243 _ ?side1 ?side2 A7.out).mono ?_); (case side1 => repeat (first | exact HR0.out | (with_reducible refine Kd.C_alloc ?_ _) | (with_reducible refine Kd.C_drewN ?_ _) | (with_reducible refine Kd.C_drew ?_))); (case side2 => exact HC0.out); rintro e w12 ⟨v244, rfl, ho0, hb⟩; refine ⟨_, rfl, ?_⟩; have n0_ := Aside0.mk (Kd.R_lower ho0 (below_size (by repeat (first | (with_reducible first | exact HB.out | apply below_alloc | apply pw_below_drewN | apply below_drew1) | exact HB.out)))); have n1_ := Aside0.mk (below_step (by repeat (first | (with_reducible first | exact HB.out | apply below_alloc | apply pw_below_drewN | apply below_drew1) | exact HB.out)) hb); clear HB; have HO245 := n0_; have HB := n1_; clear n0_ n1_; (try clear hb); (try clear hb2); (try clear hk); (try clear hi); (try clear ho0)) | ((with_reducible refine gate_callee (f := 27) rfl ?_); refine goesL_ (some 22) rfl rfl Try.func27 (by kernel_rfl) rfl #[.slice A1 l1.length c1, .int .i64 60] rfl (by (try simp only [List.map_toArray, List.map_cons, List.map_nil]); first | done | rfl | (simp only [List.length_drop, List.length_take]; rfl)) ?_; (with_reducible refine (tillerlaw05_Rows.calls k _ _ l1 60 t246 _ ?side1 ?side2 A8.out).mono ?_); (case side1 => repeat (first | exact (Kd.C_below HR1.out HB.out) | (with_reducible refine Kd.C_alloc ?_ _) | (with_reducible refine Kd.C_drewN ?_ _) | (with_reducible refine Kd.C_drew ?_))); (case side2 => exact HC1.out); rintro e w13 ⟨v247, rfl, ho0, hb⟩; refine ⟨_, rfl, ?_⟩; have n0_ := Aside0.mk (Kd.R_below (by (with_reducible repeat (first | apply Kd.R_alloc | apply Kd.R_drewN | apply Kd.R_drew)); exact HO245.out) hb); have n1_ := Aside0.mk (Kd.S_lower (Kd.S_new' ho0 (Kd.R_lt (by (with_reducible repeat (first | apply Kd.R_alloc | apply Kd.R_drewN | apply Kd.R_drew)); exact HO245.out))) (below_size (by repeat (first | (with_reducible first | exact HB.out | apply below_alloc | apply pw_below_drewN | apply below_drew1) | exact HB.out)))); have n2_ := Aside0.mk (below_step (by repeat (first | (with_reducible first | exact HB.out | apply below_alloc | apply pw_below_drewN | apply below_drew1) | exact HB.out)) hb); clear HO245; clear HB; have HO245 := n0_; have HO248 := n1_; have HB := n2_; clear n0_ n1_ n2_; (try clear hb); (try clear hb2); (try clear hk); (try clear hi); (try clear ho0)) | ((with_reducible refine gate_callee (f := 27) rfl ?_); refine goesL_ (some 24) rfl rfl Try.func27 (by kernel_rfl) rfl #[.slice A2 l2.length c2, .int .i64 60] rfl (by (try simp only [List.map_toArray, List.map_cons, List.map_nil]); first | done | rfl | (simp only [List.length_drop, List.length_take]; rfl)) ?_; (with_reducible refine (tillerlaw05_Rows.calls k _ _ l2 60 t249 _ ?side1 ?side2 A9.out).mono ?_); (case side1 => repeat (first | exact (Kd.C_below HR2.out HB.out) | (with_reducible refine Kd.C_alloc ?_ _) | (with_reducible refine Kd.C_drewN ?_ _) | (with_reducible refine Kd.C_drew ?_))); (case side2 => exact HC2.out); rintro e w14 ⟨v250, rfl, ho0, hb⟩; refine ⟨_, rfl, ?_⟩; have n0_ := Aside0.mk (Kd.R_below (by (with_reducible repeat (first | apply Kd.R_alloc | apply Kd.R_drewN | apply Kd.R_drew)); exact HO245.out) hb); have n1_ := Aside0.mk (Kd.S_elder' (by (with_reducible repeat (first | apply Kd.S_alloc | apply Kd.S_drewN | apply Kd.S_drew)); exact HO248.out) (Kd.S_base ho0) hb); have n2_ := Aside0.mk (Kd.S_lower (Kd.S_new' (Kd.S_new' ho0 (Kd.R_lt (by (with_reducible repeat (first | apply Kd.R_alloc | apply Kd.R_drewN | apply Kd.R_drew)); exact HO245.out))) (Kd.S_lt (by (with_reducible repeat (first | apply Kd.S_alloc | apply Kd.S_drewN | apply Kd.S_drew)); exact HO248.out))) (below_size (by repeat (first | (with_reducible first | exact HB.out | apply below_alloc | apply pw_below_drewN | apply below_drew1) | exact HB.out)))); have n3_ := Aside0.mk (below_step (by repeat (first | (with_reducible first | exact HB.out | apply below_alloc | apply pw_below_drewN | apply below_drew1) | exact HB.out)) hb); clear HO245; clear HO248; clear HB; have HO245 := n0_; have HO248 := n1_; have HO251 := n2_; have HB := n3_; clear n0_ n1_ n2_ n3_; (try clear hb); (try clear hb2); (try clear hk); (try clear hi); (try clear ho0); obtain ⟨Ao15, co15, eo15⟩ := Kd.R_slice HO245.out; subst eo15; obtain ⟨Ao16, co16, eo16⟩ := Kd.S_slice HO248.out; subst eo16; obtain ⟨Ao17, co17, eo17⟩ := Kd.S_slice HO251.out; subst eo17) | ((with_reducible refine gate_callee (f := 28) rfl ?_); refine goesL_ (some 30) rfl rfl Try.func28 (by kernel_rfl) rfl #[.slice Ao15 t243.length co15, .slice Ao16 t246.length co16, .slice Ao17 t249.length co17, .int .i64 a3] rfl (by (try simp only [List.map_toArray, List.map_cons, List.map_nil]); first | done | rfl | (simp only [List.length_drop, List.length_take]; rfl)) ?_; (with_reducible refine (heads_Attend.calls k _ _ t243 _ _ t246 _ _ t249 a3 t252 t253 _ ?side1 ?side2 ?side3 ?side4 ?side5 ?side6 A10.out).mono ?_); (case side1 => repeat (first | exact (Kd.R_reads' HO245.out).2.2 | (with_reducible refine Kd.C_alloc ?_ _) | (with_reducible refine Kd.C_drewN ?_ _) | (with_reducible refine Kd.C_drew ?_))); (case side2 => exact (Kd.R_reads' HO245.out).2.1); (case side3 => repeat (first | exact (Kd.S_reads' HO248.out).2.2 | (with_reducible refine Kd.C_alloc ?_ _) | (with_reducible refine Kd.C_drewN ?_ _) | (with_reducible refine Kd.C_drew ?_))); (case side4 => exact (Kd.S_reads' HO248.out).2.1); (case side5 => repeat (first | exact (Kd.S_reads' HO251.out).2.2 | (with_reducible refine Kd.C_alloc ?_ _) | (with_reducible refine Kd.C_drewN ?_ _) | (with_reducible refine Kd.C_drew ?_))); (case side6 => exact (Kd.S_reads' HO251.out).2.1); rintro e w18 ⟨v254, rfl, ho0, hb⟩; refine ⟨_, rfl, ?_⟩; have n0_ := Aside0.mk (Kd.R_elder' (by (with_reducible repeat (first | apply Kd.R_alloc | apply Kd.R_drewN | apply Kd.R_drew)); exact HO245.out) (Kd.R_base ho0) hb); have n1_ := Aside0.mk (Kd.S_elder' (by (with_reducible repeat (first | apply Kd.S_alloc | apply Kd.S_drewN | apply Kd.S_drew)); exact HO248.out) (Kd.R_base ho0) hb); have n2_ := Aside0.mk (Kd.S_elder' (by (with_reducible repeat (first | apply Kd.S_alloc | apply Kd.S_drewN | apply Kd.S_drew)); exact HO251.out) (Kd.R_base ho0) hb); have n3_ := Aside0.mk (Kd.R_lower (Kd.R_new' ho0 (Kd.R_lt (by (with_reducible repeat (first | apply Kd.R_alloc | apply Kd.R_drewN | apply Kd.R_drew)); exact HO245.out))) (below_size (by repeat (first | (with_reducible first | exact HB.out | apply below_alloc | apply pw_below_drewN | apply below_drew1) | exact HB.out)))); have n4_ := Aside0.mk (below_step (by repeat (first | (with_reducible first | exact HB.out | apply below_alloc | apply pw_below_drewN | apply below_drew1) | exact HB.out)) hb); clear HO245; clear HO248; clear HO251; clear HB; have HO245 := n0_; have HO248 := n1_; have HO251 := n2_; have HO255 := n3_; have HB := n4_; clear n0_ n1_ n2_ n3_ n4_; (try clear hb); (try clear hb2); (try clear hk); (try clear hi); (try clear ho0)))
  (try simp only [Act.put, List.setIfInBounds_toArray, List.set_cons_zero, List.set_cons_succ])
  go_cut [54] (fun v54 wc => ∃ (kq : Nat) (x54_10 : Bool), v54 = .bool x54_10 ∧ Aside0 (tillerlaw07_HeadsTurns.j0 kq t243 t246 t249 a3 a4 a5 t252 x54_10 = some r) ∧ Aside0 (kq ≤ k) ∧ Aside0 (Kd.R (Kd.int .i32) 72 wc w.heap.size (fun k_ => some k_ ≠ (v254 : Value).ownBlock) (.slice Ao15 t243.length co15) t243) ∧ Aside0 (Kd.S (Kd.slice 72 (Kd.int .i32)) 61 wc w.heap.size (fun k_ => some k_ ≠ ((.slice Ao15 t243.length co15) : Value).ownBlock ∧ some k_ ≠ ((.slice Ao17 t249.length co17) : Value).ownBlock ∧ some k_ ≠ (v254 : Value).ownBlock) (.slice Ao16 t246.length co16) t246) ∧ Aside0 (Kd.S (Kd.slice 72 (Kd.int .i32)) 61 wc w.heap.size (fun k_ => some k_ ≠ ((.slice Ao15 t243.length co15) : Value).ownBlock ∧ some k_ ≠ ((.slice Ao16 t246.length co16) : Value).ownBlock ∧ some k_ ≠ (v254 : Value).ownBlock) (.slice Ao17 t249.length co17) t249) ∧ Aside0 (Kd.R (Kd.int .i32) 72 wc w.heap.size (fun k_ => some k_ ≠ ((.slice Ao15 t243.length co15) : Value).ownBlock) v254 t252) ∧ Aside0 (Below w.heap.size w wc))
  case first =>
    have H := HC11.out
    clear HC11
    by_cases c19 : t253 = 0
    · rw [if_pos c19] at H
      have c19b0 : (t253 == 0) = true := beq_iff_eq.mpr c19
      have c19b1 : (t253 != 0) = false := bne_eq_false_iff_eq.mpr c19
      clear c19
      (first | rw [c19b0] | (simp only [i64_w, i32_w]; rw [c19b0]) | skip)
      by_cases c20 : a4 < 0
      · rw [if_pos c20] at H
        have c20b0 : decide (a4 < 0) = true := decide_eq_true c20
        clear c20
        have H' := Aside0.mk H
        clear H
        go_wp2
        go_meet
        case rel => exact ⟨_, (true), (by first | rfl | (simp; done) | (simp [*]; done)), H', ⟨by first | omega | exact Nat.le_refl _⟩, ⟨by (with_reducible repeat (first | apply Kd.R_alloc | apply Kd.R_drewN | apply Kd.R_drew)); exact Kd.R_mono HO245.out (fun _ hk => hk.2)⟩, ⟨by (with_reducible repeat (first | apply Kd.S_alloc | apply Kd.S_drewN | apply Kd.S_drew)); exact Kd.S_mono HO248.out (fun _ hk => ⟨hk.1.1.2, ⟨hk.1.2, hk.2⟩⟩)⟩, ⟨by (with_reducible repeat (first | apply Kd.S_alloc | apply Kd.S_drewN | apply Kd.S_drew)); exact Kd.S_mono HO251.out (fun _ hk => ⟨hk.1.1.2, ⟨hk.1.2, hk.2⟩⟩)⟩, ⟨by (with_reducible repeat (first | apply Kd.R_alloc | apply Kd.R_drewN | apply Kd.R_drew)); exact Kd.R_mono HO255.out (fun _ hk => hk.2)⟩, ⟨by repeat (first | (with_reducible first | exact HB.out | apply below_alloc | apply pw_below_drewN | apply below_drew1) | exact HB.out)⟩⟩
      · rw [if_neg c20] at H
        have c20b0 : decide (a4 < 0) = false := decide_eq_false c20
        clear c20
        by_cases c21 : a5 < 0
        · rw [if_pos c21] at H
          have c21b0 : decide (a5 < 0) = true := decide_eq_true c21
          clear c21
          have H' := Aside0.mk H
          clear H
          go_wp2
          go_meet
          case rel => exact ⟨_, (true), (by first | rfl | (simp; done) | (simp [*]; done)), H', ⟨by first | omega | exact Nat.le_refl _⟩, ⟨by (with_reducible repeat (first | apply Kd.R_alloc | apply Kd.R_drewN | apply Kd.R_drew)); exact Kd.R_mono HO245.out (fun _ hk => hk.2)⟩, ⟨by (with_reducible repeat (first | apply Kd.S_alloc | apply Kd.S_drewN | apply Kd.S_drew)); exact Kd.S_mono HO248.out (fun _ hk => ⟨hk.1.1.2, ⟨hk.1.2, hk.2⟩⟩)⟩, ⟨by (with_reducible repeat (first | apply Kd.S_alloc | apply Kd.S_drewN | apply Kd.S_drew)); exact Kd.S_mono HO251.out (fun _ hk => ⟨hk.1.1.2, ⟨hk.1.2, hk.2⟩⟩)⟩, ⟨by (with_reducible repeat (first | apply Kd.R_alloc | apply Kd.R_drewN | apply Kd.R_drew)); exact Kd.R_mono HO255.out (fun _ hk => hk.2)⟩, ⟨by repeat (first | (with_reducible first | exact HB.out | apply below_alloc | apply pw_below_drewN | apply below_drew1) | exact HB.out)⟩⟩
        · rw [if_neg c21] at H
          have c21b0 : decide (a5 < 0) = false := decide_eq_false c21
          clear c21
          by_cases c22 : a4 ≥ (t246.length : Int)
          · rw [if_pos c22] at H
            have c22b0 : decide ((t246.length : Int) ≤ a4) = true := decide_eq_true c22
            clear c22
            have H' := Aside0.mk H
            clear H
            go_wp2
            go_meet
            case rel => exact ⟨_, (true), (by first | rfl | (simp; done) | (simp [*]; done)), H', ⟨by first | omega | exact Nat.le_refl _⟩, ⟨by (with_reducible repeat (first | apply Kd.R_alloc | apply Kd.R_drewN | apply Kd.R_drew)); exact Kd.R_mono HO245.out (fun _ hk => hk.2)⟩, ⟨by (with_reducible repeat (first | apply Kd.S_alloc | apply Kd.S_drewN | apply Kd.S_drew)); exact Kd.S_mono HO248.out (fun _ hk => ⟨hk.1.1.2, ⟨hk.1.2, hk.2⟩⟩)⟩, ⟨by (with_reducible repeat (first | apply Kd.S_alloc | apply Kd.S_drewN | apply Kd.S_drew)); exact Kd.S_mono HO251.out (fun _ hk => ⟨hk.1.1.2, ⟨hk.1.2, hk.2⟩⟩)⟩, ⟨by (with_reducible repeat (first | apply Kd.R_alloc | apply Kd.R_drewN | apply Kd.R_drew)); exact Kd.R_mono HO255.out (fun _ hk => hk.2)⟩, ⟨by repeat (first | (with_reducible first | exact HB.out | apply below_alloc | apply pw_below_drewN | apply below_drew1) | exact HB.out)⟩⟩
          · rw [if_neg c22] at H
            have c22b0 : decide ((t246.length : Int) ≤ a4) = false := decide_eq_false c22
            clear c22
            have H' := Aside0.mk H
            clear H
            go_wp2
            go_meet
            case rel => exact ⟨_, (decide (a5 ≥ (t246.length : Int))), (by first | rfl | (simp; done) | (simp [*]; done)), H', ⟨by first | omega | exact Nat.le_refl _⟩, ⟨by (with_reducible repeat (first | apply Kd.R_alloc | apply Kd.R_drewN | apply Kd.R_drew)); exact Kd.R_mono HO245.out (fun _ hk => hk.2)⟩, ⟨by (with_reducible repeat (first | apply Kd.S_alloc | apply Kd.S_drewN | apply Kd.S_drew)); exact Kd.S_mono HO248.out (fun _ hk => ⟨hk.1.1.2, ⟨hk.1.2, hk.2⟩⟩)⟩, ⟨by (with_reducible repeat (first | apply Kd.S_alloc | apply Kd.S_drewN | apply Kd.S_drew)); exact Kd.S_mono HO251.out (fun _ hk => ⟨hk.1.1.2, ⟨hk.1.2, hk.2⟩⟩)⟩, ⟨by (with_reducible repeat (first | apply Kd.R_alloc | apply Kd.R_drewN | apply Kd.R_drew)); exact Kd.R_mono HO255.out (fun _ hk => hk.2)⟩, ⟨by repeat (first | (with_reducible first | exact HB.out | apply below_alloc | apply pw_below_drewN | apply below_drew1) | exact HB.out)⟩⟩
    · rw [if_neg c19] at H
      have c19b0 : (t253 == 0) = false := beq_eq_false_iff_ne.mpr c19
      have c19b1 : (t253 != 0) = true := bne_iff_ne.mpr c19
      (first | rw [c19b0] | (simp only [i64_w, i32_w]; rw [c19b0]) | skip)
      have H' := Aside0.mk H
      clear H
      go_wp2
      go_meet
      case rel => exact ⟨_, (true), (by first | rfl | (simp; done) | (simp [*]; done)), H', ⟨by first | omega | exact Nat.le_refl _⟩, ⟨by (with_reducible repeat (first | apply Kd.R_alloc | apply Kd.R_drewN | apply Kd.R_drew)); exact Kd.R_mono HO245.out (fun _ hk => hk.2)⟩, ⟨by (with_reducible repeat (first | apply Kd.S_alloc | apply Kd.S_drewN | apply Kd.S_drew)); exact Kd.S_mono HO248.out (fun _ hk => ⟨hk.1.1.2, ⟨hk.1.2, hk.2⟩⟩)⟩, ⟨by (with_reducible repeat (first | apply Kd.S_alloc | apply Kd.S_drewN | apply Kd.S_drew)); exact Kd.S_mono HO251.out (fun _ hk => ⟨hk.1.1.2, ⟨hk.1.2, hk.2⟩⟩)⟩, ⟨by (with_reducible repeat (first | apply Kd.R_alloc | apply Kd.R_drewN | apply Kd.R_drew)); exact Kd.R_mono HO255.out (fun _ hk => hk.2)⟩, ⟨by repeat (first | (with_reducible first | exact HB.out | apply below_alloc | apply pw_below_drewN | apply below_drew1) | exact HB.out)⟩⟩
  case rest =>
    clear HC11
    try clear c1
    try clear c2
    try clear p2
    try clear c9
    try clear c19
    try clear c19b0
    try clear c19b1
    try clear c20
    try clear c20b0
    try clear c21
    try clear c21b0
    try clear c22
    try clear c22b0
    obtain ⟨kq, x54_10, rfl, HA, HJ10, HO_0, HO_1, HO_2, HO_13, HB⟩ := hcut
    cases kq with
    | zero => exact absurd HA.out (by simp [tillerlaw07_HeadsTurns.j0])
    | succ kj10 =>
      have H := HA.out
      clear HA
      simp only [tillerlaw07_HeadsTurns.j0] at H
      by_cases c23 : x54_10 = true
      · subst c23
        have H1 : ((tillerlaw07_awake.f kj10).bind fun t256 => (some t256)) = some r := by rw [if_pos rfl] at H; exact H
        clear H
        have H := H1
        clear H1
        replace H := Option.bind_eq_some_iff.mp H
        obtain ⟨t256, A240, H⟩ := H
        replace H : (some t256) = some r := H
        have A24 := Aside0.mk A240
        clear A240
        obtain rfl := Option.some.inj H
        go_wp2_with (first | ((with_reducible refine gate_callee (f := 30) rfl ?_); refine goesL_ (some 55) rfl rfl Try.func30 (by kernel_rfl) rfl #[] rfl (by (try simp only [List.map_toArray, List.map_cons, List.map_nil]); first | done | rfl | (simp only [List.length_drop, List.length_take]; rfl)) ?_; (with_reducible refine (tillerlaw07_awake.calls kj10  t256 _ A24.out).mono ?_); rintro e w25 ⟨rfl, hb⟩; refine ⟨_, rfl, ?_⟩; have n0_ := Aside0.mk (Kd.R_below (by (with_reducible repeat (first | apply Kd.R_alloc | apply Kd.R_drewN | apply Kd.R_drew)); exact HO_0.out) hb); have n1_ := Aside0.mk (Kd.S_below (by (with_reducible repeat (first | apply Kd.S_alloc | apply Kd.S_drewN | apply Kd.S_drew)); exact HO_1.out) hb); have n2_ := Aside0.mk (Kd.S_below (by (with_reducible repeat (first | apply Kd.S_alloc | apply Kd.S_drewN | apply Kd.S_drew)); exact HO_2.out) hb); have n3_ := Aside0.mk (Kd.R_below (by (with_reducible repeat (first | apply Kd.R_alloc | apply Kd.R_drewN | apply Kd.R_drew)); exact HO_13.out) hb); have n4_ := Aside0.mk (below_step (by repeat (first | (with_reducible first | exact HB.out | apply below_alloc | apply pw_below_drewN | apply below_drew1) | exact HB.out)) hb); clear HO_0; clear HO_1; clear HO_2; clear HO_13; clear HB; have HO_0 := n0_; have HO_1 := n1_; have HO_2 := n2_; have HO_13 := n3_; have HB := n4_; clear n0_ n1_ n2_ n3_ n4_; (try clear hb); (try clear hb2); (try clear hk); (try clear hi)))
        go_ret
        exact ⟨by first | rfl | (simp [errW_none, errW_some] <;> rfl) | (simp [*, errW_none, errW_some] <;> rfl), by repeat (first | (with_reducible first | exact HB.out | apply below_alloc | apply pw_below_drewN | apply below_drew1) | exact HB.out)⟩
      · replace c23 := Bool.eq_false_iff.mpr c23
        subst c23
        rw [if_neg (show ¬ (false = true) by decide)] at H
        obtain ⟨t257, A260, H⟩ := Option.bind_eq_some_iff.mp H
        have A26 := Aside0.mk A260
        clear A260
        obtain ⟨t260, A270, H⟩ := Option.bind_eq_some_iff.mp H
        have A27 := Aside0.mk A270
        clear A270
        by_cases cb : 0 ≤ a4 ∧ 0 ≤ a5 ∧ a4 < (t257.length : Int) ∧ a5 < (t257.length : Int) ∧ t257.length = t260.length
        case neg =>
          rw [if_neg cb] at H
          cases H
        rw [if_pos cb] at H
        have CB := Aside0.mk cb
        clear cb
        obtain ⟨⟨t263, t264⟩, A280, H⟩ := Option.bind_eq_some_iff.mp H
        have A28 := Aside0.mk A280
        clear A280
        obtain ⟨t267, A290, H⟩ := Option.bind_eq_some_iff.mp H
        have A29 := Aside0.mk A290
        clear A290
        have HH := Aside0.mk H
        clear H
        have HBw := Aside0.mk HB.out
        clear HB
        -- what is only read from here on
        obtain ⟨_, hq2, hq3⟩ := Kd.R_reads' HO_0.out
        obtain ⟨_, hk2, hk3⟩ := Kd.S_reads' HO_1.out
        obtain ⟨_, hv2, hv3⟩ := Kd.S_reads' HO_2.out
        obtain ⟨Ax, cx, ex, hx2, hx3⟩ := Kd.R_reads HO_13.out
        subst ex
        have RQ := Aside0.mk hq3
        have RQl := Aside0.mk hq2
        have RK := Aside0.mk hk3
        have RKl := Aside0.mk hk2
        have RV := Aside0.mk hv3
        have RVl := Aside0.mk hv2
        have RX := Aside0.mk hx3
        have RXl := Aside0.mk hx2
        clear hq2 hq3 hk2 hk3 hv2 hv3 hx2 hx3 HO_0 HO_1 HO_2 HO_13
        generalize hWr : wc = w0 at *
        clear hWr
        have HB := Aside0.mk (Below.refl w0.heap.size w0)
        go_upto_region 6 with (first | ((with_reducible refine gate_callee (f := 27) rfl ?_); refine goesL_ (some 57) rfl rfl Try.func27 (by kernel_rfl) rfl #[.slice Ao16 t246.length co16, .int .i64 60] rfl ar ?_; (with_reducible refine (tillerlaw05_Rows.calls kj10 _ _ t246 60 t257 _ ?side1 ?side2 A26.out).mono ?_); (case side1 => exact Kd.C_below RK.out bel); (case side2 => exact RKl.out); rintro e w1 ⟨v1, rfl, ho1, hb1⟩; refine ⟨_, rfl, ?_⟩; have S1 := Aside0.mk ho1; have B1 := Aside0.mk (below_step bel hb1); clear HB; have HB := B1; clear B1 ho1 hb1) | ((with_reducible refine gate_callee (f := 27) rfl ?_); refine goesL_ (some 59) rfl rfl Try.func27 (by kernel_rfl) rfl #[.slice Ao17 t249.length co17, .int .i64 60] rfl ar ?_; (with_reducible refine (tillerlaw05_Rows.calls kj10 _ _ t249 60 t260 _ ?side1 ?side2 A27.out).mono ?_); (case side1 => exact Kd.C_below RV.out bel); (case side2 => exact RVl.out); rintro e w2 ⟨v2, rfl, ho2, hb2⟩; refine ⟨_, rfl, ?_⟩; have R1 := Aside0.mk (Kd.R_below (Kd.R_bound (by (with_reducible repeat (first | apply Kd.R_alloc | apply Kd.R_drewN | apply Kd.R_drew)); exact Kd.S_R S1.out)) hb2); have R2 := Aside0.mk (Kd.R_bound (Kd.S_R ho2)); have B1 := Aside0.mk (below_step bel hb2); clear HB; have HB := B1; clear B1 ho2 hb2))
        obtain ⟨ci0, cj0, cil, cjl, clen⟩ := CB.out
        have hp1 : 0 < t257.length := by omega
        have hp2 : 0 < t260.length := by omega
        obtain ⟨gk, ck, rfl, hck, okk⟩ := own_form R1.out hp1
        obtain ⟨gv, cv_, rfl, hcv, okv⟩ := own_form R2.out hp2
        have nkv : gk ≠ gv := by have := okk.2.2.1; have := okv.2.1; omega
        obtain ⟨Ai, li, ci, hui, fui⟩ := own_cell R1.out a4 ci0 cil
        obtain ⟨Aj, lj, cj, huj, fuj⟩ := own_cell R1.out a5 cj0 cjl
        have e1 : (0 ≤ a4) = True := eq_true ci0
        have e2 : (0 ≤ a5) = True := eq_true cj0
        have e3 : (a4 < (t257.length : Int)) = True := eq_true cil
        have e4 : (a5 < (t257.length : Int)) = True := eq_true cjl
        have e5 : (a4 < (t260.length : Int)) = True := eq_true (by omega)
        have e6 : (a5 < (t260.length : Int)) = True := eq_true (by omega)
        have P6a : w2.drew.cell? ⟨gk, (a4 : Int).toNat, none⟩ = some (.slice Ai li ci) := hui
        have P6b : w2.drew.cell? ⟨gk, (a5 : Int).toNat, none⟩ = some (.slice Aj lj cj) := huj
        obtain ⟨x6, P6c⟩ : ∃ u, (w2.setCell ⟨gk, (a4 : Int).toNat, none⟩ (.slice Aj lj cj)).cell? ⟨gk, (a5 : Int).toNat, none⟩ = some u := by
          by_cases c : a5.toNat = a4.toNat
          · rw [c]
            exact ⟨_, World.cell?_setCell_same _ _ _ hui⟩
          · rw [World.cell?_setCell_other _ _ _ _ (fun e => c (by injection e with _ e _; exact e.symm))]
            exact ⟨_, huj⟩
        refine start_ (n := 16) (S := fun w' => w'.cell? ⟨gk, (a4 : Int).toNat, none⟩ = some (.slice Ai li ci) ∧ w'.cell? ⟨gk, (a5 : Int).toNat, none⟩ = some (.slice Aj lj cj)) (ds := [13, 15]) #[false, false, false, false, false, false, false, false, false, false, false, false, false, false, false, false] (by kernel_rfl) rfl rfl ⟨P6a, P6b⟩ (fun hHeld => ?_)
        refine pure_ (i := 0) (N := some 60) (v := ?_) (a' := ?_) #[true, false, false, false, false, false, false, false, false, false, false, false, false, false, false, false] rfl rfl (by kernel_rfl) (fun _ _ _ h => h) (Or.inl ⟨by rfl, ?_⟩) ?_ ?_
        rotate_left
        · intro w'
          go_simp
          with_reducible rfl
        rotate_left
        · simp only [Act.put, List.setIfInBounds_toArray, List.set_cons_zero, List.set_cons_succ, i64_w, i32_w]
          rfl
        refine pure_ (i := 1) (N := some 61) (v := ?_) (a' := ?_) #[true, true, false, false, false, false, false, false, false, false, false, false, false, false, false, false] rfl rfl (by kernel_rfl) (fun _ _ _ h => h) (Or.inl ⟨by rfl, ?_⟩) ?_ ?_
        rotate_left
        · intro w'
          go_simp
          with_reducible rfl
        rotate_left
        · simp only [Act.put, List.setIfInBounds_toArray, List.set_cons_zero, List.set_cons_succ, i64_w, i32_w]
          rfl
        refine pure_ (i := 2) (N := some 62) (v := ?_) (a' := ?_) #[true, true, true, false, false, false, false, false, false, false, false, false, false, false, false, false] rfl rfl (by kernel_rfl) (fun _ _ _ h => h) (Or.inl ⟨by rfl, ?_⟩) ?_ ?_
        rotate_left
        · intro w'
          go_simp
          with_reducible rfl
        rotate_left
        · simp only [Act.put, List.setIfInBounds_toArray, List.set_cons_zero, List.set_cons_succ, i64_w, i32_w]
          rfl
        refine pure_ (i := 3) (N := some 63) (v := ?_) (a' := ?_) #[true, true, true, true, false, false, false, false, false, false, false, false, false, false, false, false] rfl rfl (by kernel_rfl) (fun _ _ _ h => h) (Or.inl ⟨by rfl, ?_⟩) ?_ ?_
        rotate_left
        · intro w'
          go_simp
          with_reducible rfl
        rotate_left
        · simp only [Act.put, List.setIfInBounds_toArray, List.set_cons_zero, List.set_cons_succ, i64_w, i32_w]
          rfl
        refine pure_ (i := 4) (N := some 64) (v := ?_) (a' := ?_) #[true, true, true, true, true, false, false, false, false, false, false, false, false, false, false, false] rfl rfl (by kernel_rfl) (fun _ _ _ h => h) (Or.inl ⟨by rfl, ?_⟩) ?_ ?_
        rotate_left
        · intro w'
          go_simp
          with_reducible rfl
        rotate_left
        · simp only [Act.put, List.setIfInBounds_toArray, List.set_cons_zero, List.set_cons_succ, i64_w, i32_w]
          rfl
        refine pure_ (i := 5) (N := some 65) (v := ?_) (a' := ?_) #[true, true, true, true, true, true, false, false, false, false, false, false, false, false, false, false] rfl rfl (by kernel_rfl) (fun _ _ _ h => h) (Or.inl ⟨by rfl, ?_⟩) ?_ ?_
        rotate_left
        · intro w'
          go_simp
          with_reducible rfl
        rotate_left
        · simp only [Act.put, List.setIfInBounds_toArray, List.set_cons_zero, List.set_cons_succ, i64_w, i32_w]
          rfl
        refine pure_ (i := 6) (N := some 66) (v := ?_) (a' := ?_) #[true, true, true, true, true, true, true, false, false, false, false, false, false, false, false, false] rfl rfl (by kernel_rfl) (fun _ _ _ h => h) (Or.inl ⟨by rfl, ?_⟩) ?_ ?_
        rotate_left
        · intro w'
          go_simp
          with_reducible rfl
        rotate_left
        · simp only [Act.put, List.setIfInBounds_toArray, List.set_cons_zero, List.set_cons_succ, i64_w, i32_w]
          rfl
        refine pure_ (i := 8) (N := some 68) (v := ?_) (a' := ?_) #[true, true, true, true, true, true, true, false, true, false, false, false, false, false, false, false] rfl rfl (by kernel_rfl) (fun _ _ _ h => h) (Or.inl ⟨by rfl, ?_⟩) ?_ ?_
        rotate_left
        · intro w'
          go_simp
          with_reducible rfl
        rotate_left
        · simp only [Act.put, List.setIfInBounds_toArray, List.set_cons_zero, List.set_cons_succ, i64_w, i32_w]
          rfl
        refine pure_ (i := 9) (N := some 69) (v := ?_) (a' := ?_) #[true, true, true, true, true, true, true, false, true, true, false, false, false, false, false, false] rfl rfl (by kernel_rfl) (fun _ _ _ h => h) (Or.inl ⟨by rfl, ?_⟩) ?_ ?_
        rotate_left
        · intro w'
          go_simp
          with_reducible rfl
        rotate_left
        · simp only [Act.put, List.setIfInBounds_toArray, List.set_cons_zero, List.set_cons_succ, i64_w, i32_w]
          rfl
        refine pure_ (i := 10) (N := some 70) (v := ?_) (a' := ?_) #[true, true, true, true, true, true, true, false, true, true, true, false, false, false, false, false] rfl rfl (by kernel_rfl) (fun _ _ _ h => h) (Or.inl ⟨by rfl, ?_⟩) ?_ ?_
        rotate_left
        · intro w'
          go_simp
          with_reducible rfl
        rotate_left
        · simp only [Act.put, List.setIfInBounds_toArray, List.set_cons_zero, List.set_cons_succ, i64_w, i32_w]
          rfl
        refine take_ (i := 7) (N := some 67) (v := ?_) (a' := ?_) #[true, true, true, true, true, true, true, true, true, true, true, false, false, false, false, false] rfl rfl (by kernel_rfl) (fun _ _ _ h => h) (Or.inl ⟨by rfl, ?_⟩) hHeld ?_ ?_
        rotate_left
        · rintro w' ⟨s0, s1⟩
          go_simp
          with_reducible rfl
        rotate_left
        · simp only [Act.put, List.setIfInBounds_toArray, List.set_cons_zero, List.set_cons_succ, i64_w, i32_w]
          rfl
        refine take_ (i := 11) (N := some 71) (v := ?_) (a' := ?_) #[true, true, true, true, true, true, true, true, true, true, true, true, false, false, false, false] rfl rfl (by kernel_rfl) (fun _ _ _ h => h) (Or.inl ⟨by rfl, ?_⟩) hHeld ?_ ?_
        rotate_left
        · rintro w' ⟨s0, s1⟩
          go_simp
          with_reducible rfl
        rotate_left
        · simp only [Act.put, List.setIfInBounds_toArray, List.set_cons_zero, List.set_cons_succ, i64_w, i32_w]
          rfl
        refine pure_ (i := 12) (N := some 72) (v := ?_) (a' := ?_) #[true, true, true, true, true, true, true, true, true, true, true, true, true, false, false, false] rfl rfl (by kernel_rfl) (fun _ _ _ h => h) (Or.inl ⟨by rfl, ?_⟩) ?_ ?_
        rotate_left
        · intro w'
          go_simp
          with_reducible rfl
        rotate_left
        · simp only [Act.put, List.setIfInBounds_toArray, List.set_cons_zero, List.set_cons_succ, i64_w, i32_w]
          rfl
        refine last_ (i := 13) (N := none) #[true, true, true, true, true, true, true, true, true, true, true, true, true, true, false, false] rfl rfl (by kernel_rfl) (by decide) (fun K hK => ?_)
        refine skip_ (w1 := ?_) (by rfl) rfl ?_ ?_
        rotate_left
        · go_simp
          rfl
        refine hK.out _ _ ?_
        clear hK K
        refine pure_ (i := 14) (N := some 73) (v := ?_) (a' := ?_) #[true, true, true, true, true, true, true, true, true, true, true, true, true, true, true, false] rfl rfl (by kernel_rfl) (fun _ _ _ h => h) (Or.inl ⟨by rfl, ?_⟩) ?_ ?_
        rotate_left
        · intro w'
          go_simp
          with_reducible rfl
        rotate_left
        · simp only [Act.put, List.setIfInBounds_toArray, List.set_cons_zero, List.set_cons_succ, i64_w, i32_w]
          rfl
        refine last_ (i := 15) (N := none) #[true, true, true, true, true, true, true, true, true, true, true, true, true, true, true, true] rfl rfl (by kernel_rfl) (by decide) (fun K hK => ?_)
        refine skip_ (w1 := ?_) (by rfl) rfl ?_ ?_
        rotate_left
        · go_simp
          rfl
        refine hK.out _ _ ?_
        clear hK K
        refine done_ (by kernel_rfl) ?_
        have R3 := Aside0.mk (Kd.R_far (p := ⟨gk, (a5 : Int).toNat, none⟩) (Kd.R_far (p := ⟨gk, (a4 : Int).toNat, none⟩) R2.out (fun k hk => by have := hk.2.1; have := okk.2.2.1; show k ≠ gk; omega) (.slice Aj lj cj)) (fun k hk => by have := hk.2.1; have := okk.2.2.1; show k ≠ gk; omega) (.slice Ai li ci))
        have T6 := turned hui huj
        have B6 := Aside0.mk (below_set (j := (a5 : Int).toNat) (v := .slice Ai li ci) (below_set (j := (a4 : Int).toNat) (v := .slice Aj lj cj) HB.out okk.2.1) okk.2.1)
        clear P6a P6b P6c x6
        generalize hW6 : (w2.setCell ⟨gk, (a4 : Int).toNat, none⟩ (.slice Aj lj cj)).setCell ⟨gk, (a5 : Int).toNat, none⟩ (.slice Ai li ci) = W6 at *
        clear hW6 HB
        have HB := B6
        clear B6
        obtain ⟨Bi, mi, di, hvi, fvi⟩ := own_cell R3.out a4 ci0 (by omega)
        obtain ⟨Bj, mj, dj, hvj, fvj⟩ := own_cell R3.out a5 cj0 (by omega)
        have P7a : W6.drew.drew.cell? ⟨gv, (a4 : Int).toNat, none⟩ = some (.slice Bi mi di) := hvi
        have P7b : W6.drew.drew.cell? ⟨gv, (a5 : Int).toNat, none⟩ = some (.slice Bj mj dj) := hvj
        obtain ⟨x7, P7c⟩ : ∃ u, (W6.setCell ⟨gv, (a4 : Int).toNat, none⟩ (.slice Bj mj dj)).cell? ⟨gv, (a5 : Int).toNat, none⟩ = some u := by
          by_cases c : a5.toNat = a4.toNat
          · rw [c]
            exact ⟨_, World.cell?_setCell_same _ _ _ hvi⟩
          · rw [World.cell?_setCell_other _ _ _ _ (fun e => c (by injection e with _ e _; exact e.symm))]
            exact ⟨_, hvj⟩
        go_upto_region 7 with (fail)
        refine start_ (n := 16) (S := fun w' => w'.cell? ⟨gv, (a4 : Int).toNat, none⟩ = some (.slice Bi mi di) ∧ w'.cell? ⟨gv, (a5 : Int).toNat, none⟩ = some (.slice Bj mj dj)) (ds := [13, 15]) #[false, false, false, false, false, false, false, false, false, false, false, false, false, false, false, false] (by kernel_rfl) rfl rfl ⟨P7a, P7b⟩ (fun hHeld => ?_)
        refine pure_ (i := 0) (N := some 74) (v := ?_) (a' := ?_) #[true, false, false, false, false, false, false, false, false, false, false, false, false, false, false, false] rfl rfl (by kernel_rfl) (fun _ _ _ h => h) (Or.inl ⟨by rfl, ?_⟩) ?_ ?_
        rotate_left
        · intro w'
          go_simp
          with_reducible rfl
        rotate_left
        · simp only [Act.put, List.setIfInBounds_toArray, List.set_cons_zero, List.set_cons_succ, i64_w, i32_w]
          rfl
        refine pure_ (i := 1) (N := some 75) (v := ?_) (a' := ?_) #[true, true, false, false, false, false, false, false, false, false, false, false, false, false, false, false] rfl rfl (by kernel_rfl) (fun _ _ _ h => h) (Or.inl ⟨by rfl, ?_⟩) ?_ ?_
        rotate_left
        · intro w'
          go_simp
          with_reducible rfl
        rotate_left
        · simp only [Act.put, List.setIfInBounds_toArray, List.set_cons_zero, List.set_cons_succ, i64_w, i32_w]
          rfl
        refine pure_ (i := 2) (N := some 76) (v := ?_) (a' := ?_) #[true, true, true, false, false, false, false, false, false, false, false, false, false, false, false, false] rfl rfl (by kernel_rfl) (fun _ _ _ h => h) (Or.inl ⟨by rfl, ?_⟩) ?_ ?_
        rotate_left
        · intro w'
          go_simp
          with_reducible rfl
        rotate_left
        · simp only [Act.put, List.setIfInBounds_toArray, List.set_cons_zero, List.set_cons_succ, i64_w, i32_w]
          rfl
        refine pure_ (i := 3) (N := some 77) (v := ?_) (a' := ?_) #[true, true, true, true, false, false, false, false, false, false, false, false, false, false, false, false] rfl rfl (by kernel_rfl) (fun _ _ _ h => h) (Or.inl ⟨by rfl, ?_⟩) ?_ ?_
        rotate_left
        · intro w'
          go_simp
          with_reducible rfl
        rotate_left
        · simp only [Act.put, List.setIfInBounds_toArray, List.set_cons_zero, List.set_cons_succ, i64_w, i32_w]
          rfl
        refine pure_ (i := 4) (N := some 78) (v := ?_) (a' := ?_) #[true, true, true, true, true, false, false, false, false, false, false, false, false, false, false, false] rfl rfl (by kernel_rfl) (fun _ _ _ h => h) (Or.inl ⟨by rfl, ?_⟩) ?_ ?_
        rotate_left
        · intro w'
          go_simp
          with_reducible rfl
        rotate_left
        · simp only [Act.put, List.setIfInBounds_toArray, List.set_cons_zero, List.set_cons_succ, i64_w, i32_w]
          rfl
        refine pure_ (i := 5) (N := some 79) (v := ?_) (a' := ?_) #[true, true, true, true, true, true, false, false, false, false, false, false, false, false, false, false] rfl rfl (by kernel_rfl) (fun _ _ _ h => h) (Or.inl ⟨by rfl, ?_⟩) ?_ ?_
        rotate_left
        · intro w'
          go_simp
          with_reducible rfl
        rotate_left
        · simp only [Act.put, List.setIfInBounds_toArray, List.set_cons_zero, List.set_cons_succ, i64_w, i32_w]
          rfl
        refine pure_ (i := 6) (N := some 80) (v := ?_) (a' := ?_) #[true, true, true, true, true, true, true, false, false, false, false, false, false, false, false, false] rfl rfl (by kernel_rfl) (fun _ _ _ h => h) (Or.inl ⟨by rfl, ?_⟩) ?_ ?_
        rotate_left
        · intro w'
          go_simp
          with_reducible rfl
        rotate_left
        · simp only [Act.put, List.setIfInBounds_toArray, List.set_cons_zero, List.set_cons_succ, i64_w, i32_w]
          rfl
        refine pure_ (i := 8) (N := some 82) (v := ?_) (a' := ?_) #[true, true, true, true, true, true, true, false, true, false, false, false, false, false, false, false] rfl rfl (by kernel_rfl) (fun _ _ _ h => h) (Or.inl ⟨by rfl, ?_⟩) ?_ ?_
        rotate_left
        · intro w'
          go_simp
          with_reducible rfl
        rotate_left
        · simp only [Act.put, List.setIfInBounds_toArray, List.set_cons_zero, List.set_cons_succ, i64_w, i32_w]
          rfl
        refine pure_ (i := 9) (N := some 83) (v := ?_) (a' := ?_) #[true, true, true, true, true, true, true, false, true, true, false, false, false, false, false, false] rfl rfl (by kernel_rfl) (fun _ _ _ h => h) (Or.inl ⟨by rfl, ?_⟩) ?_ ?_
        rotate_left
        · intro w'
          go_simp
          with_reducible rfl
        rotate_left
        · simp only [Act.put, List.setIfInBounds_toArray, List.set_cons_zero, List.set_cons_succ, i64_w, i32_w]
          rfl
        refine pure_ (i := 10) (N := some 84) (v := ?_) (a' := ?_) #[true, true, true, true, true, true, true, false, true, true, true, false, false, false, false, false] rfl rfl (by kernel_rfl) (fun _ _ _ h => h) (Or.inl ⟨by rfl, ?_⟩) ?_ ?_
        rotate_left
        · intro w'
          go_simp
          with_reducible rfl
        rotate_left
        · simp only [Act.put, List.setIfInBounds_toArray, List.set_cons_zero, List.set_cons_succ, i64_w, i32_w]
          rfl
        refine take_ (i := 7) (N := some 81) (v := ?_) (a' := ?_) #[true, true, true, true, true, true, true, true, true, true, true, false, false, false, false, false] rfl rfl (by kernel_rfl) (fun _ _ _ h => h) (Or.inl ⟨by rfl, ?_⟩) hHeld ?_ ?_
        rotate_left
        · rintro w' ⟨s0, s1⟩
          go_simp
          with_reducible rfl
        rotate_left
        · simp only [Act.put, List.setIfInBounds_toArray, List.set_cons_zero, List.set_cons_succ, i64_w, i32_w]
          rfl
        refine take_ (i := 11) (N := some 85) (v := ?_) (a' := ?_) #[true, true, true, true, true, true, true, true, true, true, true, true, false, false, false, false] rfl rfl (by kernel_rfl) (fun _ _ _ h => h) (Or.inl ⟨by rfl, ?_⟩) hHeld ?_ ?_
        rotate_left
        · rintro w' ⟨s0, s1⟩
          go_simp
          with_reducible rfl
        rotate_left
        · simp only [Act.put, List.setIfInBounds_toArray, List.set_cons_zero, List.set_cons_succ, i64_w, i32_w]
          rfl
        refine pure_ (i := 12) (N := some 86) (v := ?_) (a' := ?_) #[true, true, true, true, true, true, true, true, true, true, true, true, true, false, false, false] rfl rfl (by kernel_rfl) (fun _ _ _ h => h) (Or.inl ⟨by rfl, ?_⟩) ?_ ?_
        rotate_left
        · intro w'
          go_simp
          with_reducible rfl
        rotate_left
        · simp only [Act.put, List.setIfInBounds_toArray, List.set_cons_zero, List.set_cons_succ, i64_w, i32_w]
          rfl
        refine last_ (i := 13) (N := none) #[true, true, true, true, true, true, true, true, true, true, true, true, true, true, false, false] rfl rfl (by kernel_rfl) (by decide) (fun K hK => ?_)
        refine skip_ (w1 := ?_) (by rfl) rfl ?_ ?_
        rotate_left
        · go_simp
          rfl
        refine hK.out _ _ ?_
        clear hK K
        refine pure_ (i := 14) (N := some 87) (v := ?_) (a' := ?_) #[true, true, true, true, true, true, true, true, true, true, true, true, true, true, true, false] rfl rfl (by kernel_rfl) (fun _ _ _ h => h) (Or.inl ⟨by rfl, ?_⟩) ?_ ?_
        rotate_left
        · intro w'
          go_simp
          with_reducible rfl
        rotate_left
        · simp only [Act.put, List.setIfInBounds_toArray, List.set_cons_zero, List.set_cons_succ, i64_w, i32_w]
          rfl
        refine last_ (i := 15) (N := none) #[true, true, true, true, true, true, true, true, true, true, true, true, true, true, true, true] rfl rfl (by kernel_rfl) (by decide) (fun K hK => ?_)
        refine skip_ (w1 := ?_) (by rfl) rfl ?_ ?_
        rotate_left
        · go_simp
          rfl
        refine hK.out _ _ ?_
        clear hK K
        refine done_ (by kernel_rfl) ?_
        have hv0 : w0.heap.size ≤ gv := by have := okk.2.1; have := okk.2.2.1; have := okv.2.1; omega
        have T7 := turned hvi hvj
        have B7 := Aside0.mk (below_set (j := (a5 : Int).toNat) (v := .slice Bi mi di) (below_set (j := (a4 : Int).toNat) (v := .slice Bj mj dj) HB.out hv0) hv0)
        clear P7a P7b P7c x7
        generalize hW7 : (W6.setCell ⟨gv, (a4 : Int).toNat, none⟩ (.slice Bj mj dj)).setCell ⟨gv, (a5 : Int).toNat, none⟩ (.slice Bi mi di) = W7 at *
        clear hW7 HB
        have HB := B7
        clear B7
        have i4 : (a4 : Int).toNat < t257.length := by omega
        have i5 : (a5 : Int).toNat < t257.length := by omega
        have CK : Aside0 ((Kd.slice 72 (Kd.int .i32)).C W7 (some ⟨gk, 0, none⟩) t257.length (swapRows t257 a4 a5)) := Aside0.mk (swap_reads [] R1.out rfl (a4 : Int).toNat (a5 : Int).toNat i4 i5 _ _ hui huj (fun k hk hne => (T7.1 k (by have := hk.2.2.1; have := okv.2.1; omega)).trans (T6.1 k hne)) (fun m hm => (T7.2.2 ⟨gk, m, none⟩ nkv).trans (T6.2.1 m)))
        have CV : Aside0 ((Kd.slice 72 (Kd.int .i32)).C W7 (some ⟨gv, 0, none⟩) t260.length (swapRows t260 a4 a5)) := Aside0.mk (swap_reads [] R3.out rfl (a4 : Int).toNat (a5 : Int).toNat (by omega) (by omega) _ _ hvi hvj (fun k hk hne => T7.1 k hne) (fun m hm => T7.2.1 m))
        have hl1 : (swapRows t257 a4 a5).length = t257.length := by unfold swapRows; simp
        have hl2 : (swapRows t260 a4 a5).length = t260.length := by unfold swapRows; simp
        have CK2 := Aside0.mk hck
        have CV2 := Aside0.mk hcv
        clear R1 R2 R3 S1 T6 T7 hui huj fui fuj hvi hvj fvi fvj okk okv nkv hck hcv e1 e2 e3 e4 e5 e6
        rw [← hl1] at CK CK2
        rw [← hl2] at CV CV2
        have L1 := Aside0.mk hl1
        have L2 := Aside0.mk hl2
        clear hl1 hl2
        go_upto_region 9 with (first | ((with_reducible refine gate_callee (f := 28) rfl ?_); refine goesL_ (some 93) rfl rfl Try.func28 (by kernel_rfl) rfl #[.slice Ao15 t243.length co15, .slice (some ⟨gk, 0, none⟩) t257.length ck, .slice (some ⟨gv, 0, none⟩) t260.length cv_, .int .i64 a3] rfl ar ?_; refine calls_len L1.out L2.out (heads_Attend.calls kj10 _ _ t243 _ _ (swapRows t257 a4 a5) _ _ (swapRows t260 a4 a5) a3 t263 t264 _ ?side1 ?side2 ?side3 ?side4 ?side5 ?side6 A28.out) ?_; (case side1 => exact Kd.C_below RQ.out bel); (case side2 => exact RQl.out); (case side3 => repeat (first | exact CK.out | (with_reducible refine Kd.C_alloc ?_ _) | (with_reducible refine Kd.C_drewN ?_ _) | (with_reducible refine Kd.C_drew ?_))); (case side4 => exact CK2.out); (case side5 => repeat (first | exact CV.out | (with_reducible refine Kd.C_alloc ?_ _) | (with_reducible refine Kd.C_drewN ?_ _) | (with_reducible refine Kd.C_drew ?_))); (case side6 => exact CV2.out); rintro e w3 ⟨v3, rfl, ho3, hb3⟩; refine ⟨_, rfl, ?_⟩; have R4 := Aside0.mk ho3; have B1 := Aside0.mk (below_step bel hb3); clear HB; have HB := B1; clear B1 ho3 hb3))
        obtain ⟨Ay, cy, ey, hy2, hy3⟩ := Kd.R_reads R4.out
        subst ey
        have RY := Aside0.mk hy3
        have RYl := Aside0.mk hy2
        clear hy2 hy3 R4 CK CV CK2 CV2
        have HBx := Aside0.mk HB.out
        clear HB
        have HW3 := Aside0.mk (below_step HBw.out HBx.out)
        have RXx := Aside0.mk (Kd.C_below RX.out HBx.out)
        clear RX HBw HBx RQ RQl RK RKl RV RVl
        have RX := RXx
        clear RXx
        have HBw := HW3
        clear HW3
        have HB := Aside0.mk (Below.refl w3.heap.size w3)
        have H := HH.out
        clear HH
        by_cases c30 : t267 = true
        · subst c30
          rw [if_pos rfl] at H
          by_cases c31 : t264 = 0
          · rw [if_pos c31] at H
            have c31b0 : (t264 == 0) = true := beq_iff_eq.mpr c31
            have c31b1 : (t264 != 0) = false := bne_eq_false_iff_eq.mpr c31
            clear c31
            obtain ⟨t268, A320, H⟩ := Option.bind_eq_some_iff.mp H
            have A32 := Aside0.mk A320
            clear A320
            obtain rfl := Option.some.inj H
            go_wp2_with (first | ((with_reducible refine gate_callee (f := 30) rfl ?_); refine goesL_ (some 96) rfl rfl Try.func30 (by kernel_rfl) rfl #[] rfl ar ?_; (with_reducible refine (tillerlaw07_awake.calls kj10 true _ A29.out).mono ?_); rintro e w4 ⟨rfl, hb⟩; refine ⟨_, rfl, ?_⟩; have B1 := Aside0.mk (below_step bel hb); clear HB; have HB := B1; clear B1 hb) | (go_at_call 31; (with_reducible refine (tillerref03_Same.calls kj10 _ _ t252 _ _ t263 t268 _ ?side1 ?side2 ?side3 ?side4 A32.out).mono ?_); (case side1 => exact Kd.C_below RX.out bel); (case side2 => exact RXl.out); (case side3 => repeat (first | exact Kd.C_below RY.out bel | (with_reducible refine Kd.C_alloc ?_ _) | (with_reducible refine Kd.C_drewN ?_ _) | (with_reducible refine Kd.C_drew ?_))); (case side4 => exact RYl.out); rintro e w' ⟨rfl, ⟨nd, rfl⟩⟩))
            go_ret
            exact ⟨by first | rfl | (simp [errW_none, errW_some] <;> rfl) | (simp [*, errW_none, errW_some] <;> rfl), below_step HBw.out bel⟩
          · rw [if_neg c31] at H
            have c31b0 : (t264 == 0) = false := beq_eq_false_iff_ne.mpr c31
            have c31b1 : (t264 != 0) = true := bne_iff_ne.mpr c31
            obtain rfl := Option.some.inj H
            go_wp2_with (first | ((with_reducible refine gate_callee (f := 30) rfl ?_); refine goesL_ (some 96) rfl rfl Try.func30 (by kernel_rfl) rfl #[] rfl ar ?_; (with_reducible refine (tillerlaw07_awake.calls kj10 true _ A29.out).mono ?_); rintro e w4 ⟨rfl, hb⟩; refine ⟨_, rfl, ?_⟩; have B1 := Aside0.mk (below_step bel hb); clear HB; have HB := B1; clear B1 hb))
            go_ret
            exact ⟨by first | rfl | (simp [errW_none, errW_some] <;> rfl) | (simp [*, errW_none, errW_some] <;> rfl), below_step HBw.out bel⟩
        · replace c30 := Bool.eq_false_iff.mpr c30
          subst c30
          rw [if_neg (show ¬ (false = true) by decide)] at H
          obtain rfl := Option.some.inj H
          go_wp2_with (first | ((with_reducible refine gate_callee (f := 30) rfl ?_); refine goesL_ (some 96) rfl rfl Try.func30 (by kernel_rfl) rfl #[] rfl ar ?_; (with_reducible refine (tillerlaw07_awake.calls kj10 false _ A29.out).mono ?_); rintro e w4 ⟨rfl, hb⟩; refine ⟨_, rfl, ?_⟩; have B1 := Aside0.mk (below_step bel hb); clear HB; have HB := B1; clear B1 hb))
          go_ret
          exact ⟨by first | rfl | (simp [errW_none, errW_some] <;> rfl) | (simp [*, errW_none, errW_some] <;> rfl), below_step HBw.out bel⟩

/-- The one pure statement of tillerlaw07_HeadsTurns. -/
def tillerlaw07_HeadsTurns.PureG : Prop := ∀ (x0 : List Int) (x1 : List (List Int)) (x2 : List (List Int)) (x3 : Int) (x4 : Int) (x5 : Int), (WfRow 4 (WfInt .i32)) x0 → (WfRow 24 (WfRow 4 (WfInt .i32))) x1 → (WfRow 24 (WfRow 4 (WfInt .i32))) x2 → (WfInt .i64) x3 → (WfInt .i64) x4 → (WfInt .i64) x5 → ∃ k, tillerlaw07_HeadsTurns.f k x0 x1 x2 x3 x4 x5 = some true
end Go.Proofs.Ytepbebelbcbciaa.Q
