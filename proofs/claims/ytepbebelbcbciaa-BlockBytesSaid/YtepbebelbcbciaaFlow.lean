/- A region that draws its order, whose operations only read or make new memory ('the flow'), and a tail that waits for all of them: each operation is shown ONCE, in whatever world it comes up; behind it stands the frame with a letter for each call's answer. Conditions: the tables that the theorem names, checked by the kernel. -/
import Derived.Test.YtepbebelbcbciaaWInv
import Derived.Test.YtepbebelbcbciaaWInvWords
import Derived.Test.YtepbebelbcbciaaWMore
import Derived.WalkKit
import Derived.Test.YtepbebelbcbciaaWMore
namespace Go.Proofs.Ytepbebelbcbciaa.Q
open Go.RowKit Go.Proofs.YtepbebelbcbciaaW.PrintWords Go.Proofs.YtepbebelbcbciaaW.PrintLast
set_option linter.unusedVariables false
set_option linter.unusedSimpArgs false

/-- Only what k may hang on. -/
def maskv (B : List Nat) (k : Nat) (v : Nat → Value) : Nat → Value := fun j => if j = k ∨ (B.getD k 0).testBit j = true then v j else undef
def updv {α : Type} (v : Nat → α) (k : Nat) (x : α) : Nat → α := fun j => if j = k then x else v j
theorem updv_self {α : Type} (v : Nat → α) (k : Nat) (x : α) : updv v k x k = x := by simp [updv]
theorem updv_ne {α : Type} {v : Nat → α} {k j : Nat} {x : α} (h : j ≠ k) : updv v k x j = v j := by simp [updv, h]
theorem mask_upd {B : List Nat} {k i : Nat} {v : Nat → Value} {x : Value} (h1 : i ≠ k) (h2 : (B.getD k 0).testBit i = false) : maskv B k (updv v i x) = maskv B k v := by
  funext j
  unfold maskv
  by_cases c : j = k ∨ (B.getD k 0).testBit j = true
  · rw [if_pos c, if_pos c]
    refine updv_ne (fun e => ?_)
    subst e
    rcases c with c | c
    · exact h1 c
    · rw [h2] at c; cases c
  · rw [if_neg c, if_neg c]
/-- A frame, the listed operations' slots of which are filled. -/
def putb (b : Nat → Bool) (v : Nat → Value) : Nat → List Oper → Act → Act
  | _, [], a => a
  | k, o :: os, a => putb b v (k + 1) os (if b k = true then a.put o.dst (v k) else a)
theorem act_put_get (a : Act) (d : Tmp) (x : Value) (t : Nat) (h : d ≠ t) : (a.put (some d) x).tmps[t]? = a.tmps[t]? := by simp [Act.put, Array.getElem?_setIfInBounds_ne h]
theorem act_put_size (a : Act) (d : Option Tmp) (x : Value) : (a.put d x).tmps.size = a.tmps.size := by cases d <;> simp [Act.put]
/-- A slot reads the same in two frames that agree on the operations that fill it. -/
theorem putb_get {b b' : Nat → Bool} {v : Nat → Value} {t : Nat} : ∀ (os : List Oper) (k : Nat) (a a' : Act), a.tmps.size = a'.tmps.size → a.tmps[t]? = a'.tmps[t]? → (∀ j o, os[j]? = some o → o.dst = some t → b (k + j) = b' (k + j)) → (putb b v k os a).tmps[t]? = (putb b' v k os a').tmps[t]?
  | [], _, _, _, _, h, _ => h
  | o :: os, k, a, a', hs, h, hb => by
    unfold putb
    refine putb_get os (k + 1) _ _ ?_ ?_ (fun j o' ho hd => by have := hb (j + 1) o' (by simpa using ho) hd; rwa [show k + 1 + j = k + (j + 1) by omega])
    · split <;> split <;> simp [act_put_size, hs]
    · by_cases hd : o.dst = some t
      · have h0 := hb 0 o rfl hd
        rw [Nat.add_zero] at h0
        rw [h0]
        split
        · rw [hd]
          by_cases hlt : t < a.tmps.size
          · simp [Act.put, hlt, hs ▸ hlt]
          · simp only [Act.put]
            rw [Array.getElem?_eq_none (by simp; omega), Array.getElem?_eq_none (by simp; omega)]
        · exact h
      · have hn : ∀ (c : Act) (x : Value), (c.put o.dst x).tmps[t]? = c.tmps[t]? := by
          intro c x
          cases hq : o.dst with
          | none => rfl
          | some d => exact act_put_get _ _ _ _ (fun e => hd (by rw [hq, e]))
        split <;> split <;> simp [hn, h]
theorem putb_vals {b : Nat → Bool} {v v' : Nat → Value} : ∀ (os : List Oper) (k : Nat) (a : Act), (∀ j, j < os.length → b (k + j) = true → v (k + j) = v' (k + j)) → putb b v k os a = putb b v' k os a
  | [], _, _, _ => rfl
  | o :: os, k, a, h => by
    unfold putb
    have h0 := h 0 (by simp)
    rw [Nat.add_zero] at h0
    have e : (if b k = true then a.put o.dst (v k) else a) = (if b k = true then a.put o.dst (v' k) else a) := by
      by_cases c : b k = true
      · rw [if_pos c, if_pos c, h0 c]
      · rw [if_neg c, if_neg c]
    rw [e]
    exact putb_vals os (k + 1) _ (fun j hj hb => by have := h (j + 1) (by simpa using hj) (by rwa [show k + (j + 1) = k + 1 + j by omega]); rwa [show k + (j + 1) = k + 1 + j by omega] at this)
theorem putb_put {b : Nat → Bool} {v : Nat → Value} {d : Tmp} {x : Value} : ∀ (os : List Oper) (k : Nat) (a : Act), (∀ o ∈ os, o.dst ≠ some d) → putb b v k os (a.put (some d) x) = (putb b v k os a).put (some d) x
  | [], _, _, _ => rfl
  | o :: os, k, a, h => by
    unfold putb
    have e : (if b k = true then (a.put (some d) x).put o.dst (v k) else a.put (some d) x) = (if b k = true then a.put o.dst (v k) else a).put (some d) x := by
      by_cases c : b k = true
      · rw [if_pos c, if_pos c]
        exact Act.put_comm _ _ _ (fun q hq hq2 => h o List.mem_cons_self (by rw [hq2, hq]))
      · rw [if_neg c, if_neg c]
    rw [e]
    exact putb_put os (k + 1) _ (fun o' ho' => h o' (List.mem_cons_of_mem _ ho'))
/-- One more is listed. -/
theorem putb_up {b : Nat → Bool} {v : Nat → Value} {i : Nat} {d : Tmp} {x : Value} : ∀ (os : List Oper) (k : Nat) (a : Act), k ≤ i → b i = false → (∀ o, os[i - k]? = some o → o.dst = some d) → i - k < os.length → (∀ j o, os[j]? = some o → k + j ≠ i → o.dst ≠ some d) →
    putb (up b i) (updv v i x) k os a = (putb b v k os a).put (some d) x
  | [], _, _, _, _, _, h, _ => by simp at h
  | o :: os, k, a, hki, hbi, hd, hl, hne => by
    unfold putb
    by_cases e : k = i
    · subst e
      have hd0 : o.dst = some d := hd o (by simp)
      rw [up_self, if_pos rfl, updv_self, hbi, if_neg (by simp), hd0]
      have h1 : putb (up b k) (updv v k x) (k + 1) os (a.put (some d) x) = putb b v (k + 1) os (a.put (some d) x) := by
        have hcong : ∀ (os : List Oper) (q : Nat) (c : Act), k < q → putb (up b k) (updv v k x) q os c = putb b v q os c := by
          intro os
          induction os with
          | nil => intro q c _; rfl
          | cons o' os ih =>
            intro q c hq
            unfold putb
            rw [up_ne (by omega), updv_ne (by omega)]
            exact ih (q + 1) _ (by omega)
        exact hcong os (k + 1) _ (by omega)
      rw [h1]
      refine putb_put os (k + 1) a (fun o' ho' => ?_)
      obtain ⟨j, hj⟩ := List.getElem?_of_mem ho'
      exact hne (j + 1) o' (by simpa using hj) (by omega)
    · rw [up_ne e, updv_ne e]
      refine putb_up os (k + 1) _ (by omega) hbi (fun o' ho' => hd o' (by rw [show i - k = (i - (k + 1)) + 1 by omega]; simpa using ho')) (by simp at hl; omega) (fun j o' ho' hj => hne (j + 1) o' (by simpa using ho') (by omega))
/-- What an operation's run must come to. -/
def Yld (P : Program) (o : Oper) (ρ : Operand → Value) (W : World) (X : Value → World → Prop) : Prop :=
  match (execOp ρ o).run P W with
  | .ok (.value x) w' => X x w'
  | .ok (.enter f args) w' => Calls P f args w' fun e w'' => ∃ x, e = .returned x ∧ X x w''
  | _ => False
theorem upon_of {P : Program} {o : Oper} {a : Act} {ρ : Operand → Value} {W : World} {X : Value → World → Prop} {next : Act → World → Prop} {Q : Exit → Act → World → Prop} (h : Yld P o ρ W X) (k : ∀ x w', X x w' → next (a.put o.dst x) w') : o.upon P a next Q ((execOp ρ o).run P W) := by
  unfold Yld at h
  split at h
  · rename_i x w' e
    rw [e]
    exact k _ _ h
  · rename_i f args w' e
    rw [e, Oper.upon_enter]
    refine h.mono fun e w'' hx => ?_
    obtain ⟨x, rfl, hX⟩ := hx
    exact k _ _ hX
  · exact h.elim
section
variable {P : Program} {ops : Array Oper} {Q : Exit → Act → World → Prop} {md : Region.Mode} {T : Bool × List (List Nat × List Nat)} {B : List Nat} {O : List Nat}
/-- As StepAt, with the operation's own word. -/
def FStep (P : Program) (ops : Array Oper) (Q : Exit → Act → World → Prop) (B : List Nat) (O : List Nat) (I : (Nat → Bool) → Act → World → Prop) (i : Nat) : Prop :=
  ∀ b a w, I b a w → b i = false → (∀ j, (O.contains j && (B.getD i 0).testBit j) = true → b j = true) → (∀ d, (O.contains d && (B.getD d 0).testBit i) = true → b d = false) → wpOp P ops Q i (fun a' w' => I (up b i) a' w') a w
theorem flow_all (hT : rtab md ops = T) (hw : waitsOk T.2 B = true) (hk : baseOk T.2 O = true) (I : (Nat → Bool) → Act → World → Prop) (hs : ∀ i ∈ O, FStep P ops Q B O I i)
    (hend : ∀ b a w, (∀ j, O.contains j = true → b j = true) → I b a w → Q .normal a w) :
    ∀ (m : Nat) (b : Nat → Bool) (a : Act) (w : World), (O.filter fun j => !b j).length = m → Closed T.2 O b → I b a w → wpAnyLast P md ops Q (fun _ => True) [] m (lof T.2.length O b).toArray a w := by
  subst hT
  have mem_ready' : ∀ {b : Nat → Bool} {i : Nat}, i ∈ Region.ready md ops (lof (rtab md ops).2.length O b).toArray → i < (rtab md ops).2.length ∧ O.contains i = true ∧ b i = false ∧ ∀ r, (rtab md ops).2[i]? = some r → ∀ n ∈ r.1, n < (rtab md ops).2.length → O.contains n = true → b n = true := by
    intro b i hi
    rw [ready_eq] at hi
    unfold readyT at hi
    rw [List.mem_filter, List.mem_range] at hi
    obtain ⟨hl, h1⟩ := hi
    unfold readyAt at h1
    rw [Bool.and_eq_true, lof_get hl] at h1
    obtain ⟨h2, h3⟩ := h1
    have h4 : O.contains i = true := by
      cases h : O.contains i with
      | true => rfl
      | false => rw [h] at h2; simp at h2
    rw [h4] at h2
    refine ⟨hl, h4, by simpa using h2, fun r hr n hn hnl hO => ?_⟩
    rw [hr] at h3
    simp only [List.all_eq_true] at h3
    have h5 := h3 n hn
    rw [lof_get hnl, hO] at h5
    simpa using h5
  intro m
  induction m with
  | zero =>
    intro b a w hm hc hI
    have hall : ∀ j, O.contains j = true → b j = true := by
      intro j hj
      cases hb : b j with
      | true => rfl
      | false =>
        have : j ∈ O.filter fun j => !b j := List.mem_filter.2 ⟨List.contains_iff_mem.1 hj, by simp [hb]⟩
        rw [List.eq_nil_of_length_eq_zero hm] at this
        cases this
    refine ⟨?_, hend b a w hall hI⟩
    refine List.eq_nil_iff_forall_not_mem.2 (fun i hi => ?_)
    obtain ⟨_, h1, h2, _⟩ := mem_ready' hi
    rw [hall i h1] at h2
    cases h2
  | succ m ih =>
    intro b a w hm hc hI
    refine ⟨fun hr => ?_, fun i hi => ?_⟩
    · exfalso
      -- the smallest number that isn't listed is ready
      have hex : ∃ i, O.contains i = true ∧ b i = false := by
        cases hf : O.filter (fun j => !b j) with
        | nil => rw [hf] at hm; simp at hm
        | cons x r =>
          have hx : x ∈ O.filter (fun j => !b j) := by rw [hf]; exact List.mem_cons_self
          rw [List.mem_filter] at hx
          exact ⟨x, List.contains_iff_mem.2 hx.1, by simpa using hx.2⟩
      have hmin : ∀ k, (∃ i, i ≤ k ∧ O.contains i = true ∧ b i = false) → ∃ i, O.contains i = true ∧ b i = false ∧ ∀ j, j < i → O.contains j = true → b j = true := by
        intro k
        induction k with
        | zero =>
          rintro ⟨i, hi, h1, h2⟩
          exact ⟨i, h1, h2, fun j hj => by omega⟩
        | succ k ihk =>
          rintro ⟨i, hi, h1, h2⟩
          by_cases hlow : ∃ j, j ≤ k ∧ O.contains j = true ∧ b j = false
          · exact ihk hlow
          · refine ⟨i, h1, h2, fun j hj hO => ?_⟩
            cases hb : b j with
            | true => rfl
            | false => exact absurd ⟨j, by omega, hO, hb⟩ hlow
      obtain ⟨i0, h1, h2⟩ := hex
      obtain ⟨i, hO, hb, hlow⟩ := hmin i0 ⟨i0, Nat.le_refl _, h1, h2⟩
      have hl := baseOk_lt hk (List.contains_iff_mem.1 hO)
      have hin : i ∈ Region.ready md ops (lof (rtab md ops).2.length O b).toArray := by
        rw [ready_eq]
        unfold readyT
        rw [List.mem_filter, List.mem_range]
        refine ⟨hl, ?_⟩
        unfold readyAt
        rw [lof_get hl, hO, hb]
        have hr2 : (rtab md ops).2[i]? = some (rtab md ops).2[i] := List.getElem?_eq_getElem hl
        rw [hr2]
        simp only [if_true, Bool.not_false, Bool.true_and, List.all_eq_true]
        intro n hn
        have hni := (baseOk_row hk hr2).2 n hn
        rw [lof_get (by omega)]
        cases hOn : O.contains n with
        | true => simpa using hlow n hni hOn
        | false => simp
      rw [hr] at hin
      cases hin
    · obtain ⟨hl, hO, hb, hneed⟩ := mem_ready' hi
      have hon : ∀ j, (O.contains j && (B.getD i 0).testBit j) = true → b j = true := by
        intro j hj
        rw [Bool.and_eq_true] at hj
        have hr2 : (rtab md ops).2[i]? = some (rtab md ops).2[i] := List.getElem?_eq_getElem hl
        have h1 := List.all_eq_true.1 hw i (List.mem_range.2 hl)
        rw [hr2] at h1
        simp only [beq_iff_eq] at h1
        have h2 : (upM B i (rtab md ops).2[i].1).testBit j = true := by rw [← h1, Nat.testBit_or, hj.2, Bool.true_or]
        obtain ⟨n, hn, h3⟩ := upM_bit h2
        have hni := (baseOk_row hk hr2).2 n hn
        rcases h3 with rfl | ⟨h4, h5⟩
        · exact hneed _ hr2 n hn (by omega) hj.1
        · cases hO2 : O.contains n with
          | true => exact closed_bits hw hk hc n n (Nat.le_refl _) (by omega) hO2 (hneed _ hr2 n hn (by omega) hO2) j hj.1 h5
          | false =>
            have := bits_out hw hk n n (Nat.le_refl _) (by omega) hO2 j h5
            rw [hj.1] at this
            cases this
      have hoff : ∀ d, (O.contains d && (B.getD d 0).testBit i) = true → b d = false := by
        intro d hd
        rw [Bool.and_eq_true] at hd
        cases hbd : b d with
        | false => rfl
        | true =>
          have hdl := baseOk_lt hk (List.contains_iff_mem.1 hd.1)
          have := closed_bits hw hk hc d d (Nat.le_refl _) hdl hd.1 hbd i hO hd.2
          rw [hb] at this
          cases this
      refine wpOp_mono (fun a' w' hI' => ⟨fun _ _ => trivial, ?_⟩) (hs i (List.contains_iff_mem.1 hO) b a w hI hb hon hoff)
      have hset : (lof (rtab md ops).2.length O b).toArray.setIfInBounds i true = (lof (rtab md ops).2.length O (up b i)).toArray := by
        apply Array.ext'
        rw [Array.toList_setIfInBounds]
        exact lof_up hO
      rw [hset]
      refine ih (up b i) a' w' ?_ ?_ hI'
      · have := up_count (baseOk_nodup hk) (List.contains_iff_mem.1 hO) hb
        omega
      · intro d r hr hOd hbd n hn hOn
        by_cases hni : n = i
        · rw [hni, up_self]
        · rw [up_ne hni]
          by_cases hdi : d = i
          · subst hdi
            exact hneed r hr n hn (by have := (baseOk_row hk hr).2 n hn; omega) hOn
          · rw [up_ne hdi] at hbd
            exact hc d r hr hOd hbd n hn hOn
/-! the whole region -/
/-- The tables' checks: n operations, m of them the flow; no select; every edge backwards; the tail waits for all ahead of it; the flow's slots are filled once each, and read only by what waits for them. -/
def flowB (ops : Array Oper) (T : List (List Nat × List Nat)) (B : List Nat) (n m : Nat) : Bool :=
  T.length == n && ops.size == n && decide (m ≤ n) && baseOk T (List.range n) && Region.noSelect ops &&
  (List.range n).all (fun i => decide (i < m) || B.getD i 0 == 2 ^ i - 1) &&
  (List.range m).all (fun i => decide (B.getD i 0 < 2 ^ i) && (match ops[i]? with
    | some o => o.dst.isSome && (o.looksAt ops).all (fun t => (List.range m).all fun j => match ops[j]? with
        | some oj => oj.dst != some t || (j != i && (B.getD i 0).testBit j)
        | none => false) && (List.range m).all (fun j => j == i || match ops[j]? with
        | some oj => oj.dst != o.dst
        | none => false)
    | none => false))
/-- What is known of operation j's answer in the world w. -/
structure Fct (R : Value → World → World → Prop) (w0 w : World) (x : Value) (W0 W1 : World) : Prop where
  fact : R x W0 W1
  b0 : Below w0.heap.size w0 W0
  b1 : Below W0.heap.size W0 W1
  b2 : Below W1.heap.size W1 w
theorem Fct.step {R : Value → World → World → Prop} {w0 w w' : World} {x : Value} {W0 W1 : World} (h : Fct R w0 w x W0 W1) (hb : Below w.heap.size w w') : Fct R w0 w' x W0 W1 := ⟨h.fact, h.b0, h.b1, below_step h.b2 hb⟩
def fr (ops : Array Oper) (m : Nat) (V : Nat → (Nat → Value) → Value) (a : Act) (v : Nat → Value) (k : Nat) : Act := putb (fun _ => true) (fun j => V j v) 0 (ops.toList.take k) a
theorem region_flow {id n m : Nat} {a : Act} {w : World} (hm : P.follows .mixedOrders = true) (hT : rtab .any ops = T) (hw : waitsOk T.2 B = true) (hc : flowB ops T.2 B n m = true)
    (V : Nat → (Nat → Value) → Value) (R : Nat → Value → World → World → Prop) (hV : ∀ k v, k < m → V k (maskv B k v) = V k v)
    (hs : ∀ k o, k < m → ops[k]? = some o → ∀ (v : Nat → Value) (W0 W1 : Nat → World) (W : World), Below w.heap.size w.drew W → (∀ j, j < m → (B.getD k 0).testBit j = true → Fct (R j) w.drew W (v j) (W0 j) (W1 j)) →
      if Region.wanted o (yielded ops (fr ops m V a v k).tmps) = true then Yld P o (fr ops m V a v k).eval W (fun x W' => Below W.heap.size W W' ∧ ∃ y, x = V k (updv v k y) ∧ R k y W W')
      else ∃ y, undef = V k (updv v k y) ∧ R k y W W)
    (he : ∀ (v : Nat → Value) (W0 W1 : Nat → World) (W : World), Below w.heap.size w.drew W → (∀ j, j < m → Fct (R j) w.drew W (v j) (W0 j) (W1 j)) → (∀ i j, i < m → j < m → i ≠ j → (W1 i).heap.size ≤ (W0 j).heap.size ∨ (W1 j).heap.size ≤ (W0 i).heap.size) → wpList P ops Q (ops.toList.drop m) (fr ops m V a v m) W) :
    (Code.region id ops true).wp P Q a w := by
  unfold flowB at hc
  simp only [Bool.and_eq_true, beq_iff_eq, decide_eq_true_eq] at hc
  obtain ⟨⟨⟨⟨⟨⟨hTn, hon⟩, hmn⟩, hk⟩, hsel⟩, htail⟩, hflow⟩ := hc
  have hsel' := Region.noSelect_spec hsel
  have tail : ∀ i, m ≤ i → i < n → B.getD i 0 = 2 ^ i - 1 := by
    intro i h1 h2
    have := List.all_eq_true.1 htail i (List.mem_range.2 h2)
    simp only [Bool.or_eq_true, decide_eq_true_eq, beq_iff_eq] at this
    omega
  have fo : ∀ i, i < m → ∃ o d, ops[i]? = some o ∧ o.dst = some d ∧ (∀ t ∈ o.looksAt ops, ∀ j oj, j < m → ops[j]? = some oj → oj.dst = some t → j ≠ i ∧ (B.getD i 0).testBit j = true) ∧ (∀ j oj, j < m → j ≠ i → ops[j]? = some oj → oj.dst ≠ some d) := by
    intro i hi
    have h := List.all_eq_true.1 hflow i (List.mem_range.2 hi)
    rw [Bool.and_eq_true] at h
    have h := h.2
    cases ho : ops[i]? with
    | none => rw [ho] at h; simp at h
    | some o =>
      rw [ho] at h
      simp only [Bool.and_eq_true] at h
      obtain ⟨⟨h1, h2⟩, h3⟩ := h
      obtain ⟨d, hd⟩ := Option.isSome_iff_exists.1 h1
      refine ⟨o, d, rfl, hd, fun t ht j oj hj hoj hdj => ?_, fun j oj hj hji hoj hdj => ?_⟩
      · have h4 := List.all_eq_true.1 (List.all_eq_true.1 h2 t ht) j (List.mem_range.2 hj)
        rw [hoj] at h4
        simpa [hdj] using h4
      · have h4 := List.all_eq_true.1 h3 j (List.mem_range.2 hj)
        rw [hoj] at h4
        simp [hji, hdj, hd] at h4
  have lt2 : ∀ i, i < m → B.getD i 0 < 2 ^ i := by
    intro i hi
    have h := List.all_eq_true.1 hflow i (List.mem_range.2 hi)
    rw [Bool.and_eq_true] at h
    exact of_decide_eq_true h.1
  have bitlt : ∀ i j, i < m → (B.getD i 0).testBit j = true → j < i := by
    intro i j hi hb
    refine Nat.lt_of_not_le (fun hle => ?_)
    have h5 := Nat.testBit_lt_two_pow (i := j) (Nat.lt_of_lt_of_le (lt2 i hi) (Nat.pow_le_pow_right (by decide) hle))
    rw [h5] at hb
    cases hb
  have fl : ∀ j, j < m → (ops.toList.take m)[j]? = ops[j]? := fun j hj => by rw [List.getElem?_take_of_lt hj, Array.getElem?_toList]
  have flen : (ops.toList.take m).length = m := by rw [List.length_take, Array.length_toList]; omega
  have cont : ∀ j, (List.range n).contains j = true ↔ j < n := fun j => by rw [List.contains_iff_mem, List.mem_range]
  let I : (Nat → Bool) → Act → World → Prop := fun b a' w' =>
    (∃ (v : Nat → Value) (W0 W1 : Nat → World), a' = putb b (fun j => V j v) 0 (ops.toList.take m) a ∧ (∀ j, m ≤ j → b j = false) ∧ Below w.heap.size w.drew w' ∧ (∀ j, j < m → b j = true → Fct (R j) w.drew w' (v j) (W0 j) (W1 j)) ∧ ∀ i j, i < m → j < m → i ≠ j → b i = true → b j = true → (W1 i).heap.size ≤ (W0 j).heap.size ∨ (W1 j).heap.size ≤ (W0 i).heap.size) ∨
    (∃ t, m < t ∧ t ≤ n ∧ (∀ j, j < n → (b j = true ↔ j < t)) ∧ wpList P ops Q (ops.toList.drop t) a' w')
  have hsz : (w.drew).heap.size = w.heap.size := rfl
  refine wp_region_last (S := fun _ => True) (ds := []) hm ?_
  have hstart : (lof T.2.length (List.range n) (fun _ => false)).toArray = Array.replicate ops.size false := by
    apply Array.ext'
    rw [Array.toList_replicate, hTn, hon]
    unfold lof
    apply List.ext_getElem?
    intro j
    by_cases hj : j < n
    · rw [List.getElem?_map, List.getElem?_range hj, List.getElem?_replicate, if_pos hj]
      simp [hj]
    · rw [List.getElem?_eq_none (by simp; omega), List.getElem?_eq_none (by simp; omega)]
  rw [← hstart]
  refine flow_all hT hw hk I (fun i hi => ?_) (fun b a' w' hall hI => ?_) ops.size (fun _ => false) a _ (by rw [hon]; exact (congrArg List.length (List.filter_eq_self.2 (fun _ _ => rfl) : (List.range n).filter (fun _ => !false) = List.range n)).trans List.length_range) (fun d r _ _ hb => by cases hb) (Or.inl ⟨fun _ => undef, fun _ => w, fun _ => w, ?_, fun _ _ => rfl, Below.refl _ _, (fun _ _ hb => by cases hb), (fun _ _ _ _ _ hb => by cases hb)⟩)
  · -- a step
    have hin := List.mem_range.1 hi
    intro b a' w' hI hb hon' hoff'
    have hdep : ∀ j, j < n → (B.getD i 0).testBit j = true → b j = true := fun j hj hbit => hon' j (by rw [(cont j).2 hj, hbit]; rfl)
    have hlat : ∀ d, d < n → (B.getD d 0).testBit i = true → b d = false := fun d hd hbit => hoff' d (by rw [(cont d).2 hd, hbit]; rfl)
    by_cases him : i < m
    · rcases hI with ⟨v, W0, W1, rfl, hbt, hB, hF, hA⟩ | ⟨t, h1, h2, h3, _⟩
      · obtain ⟨o, d, ho, hd, hlook, hne⟩ := fo i him
        have hops : ∀ t, t ∈ o.looksAt ops → (putb b (fun j => V j v) 0 (ops.toList.take m) a).tmps[t]? = (fr ops m V a v i).tmps[t]? := by
          intro t ht
          unfold fr
          have e1 : (putb b (fun j => V j v) 0 (ops.toList.take m) a).tmps[t]? = (putb (fun j => decide (j < i)) (fun j => V j v) 0 (ops.toList.take m) a).tmps[t]? := by
            refine putb_get _ 0 a a rfl rfl (fun j oj hoj hdj => ?_)
            have hjl := (List.getElem?_eq_some_iff.1 hoj).1
            rw [flen] at hjl
            rw [fl j hjl] at hoj
            obtain ⟨hji, hbit⟩ := hlook t ht j oj hjl hoj hdj
            rw [Nat.zero_add, hdep j (by omega) hbit, decide_eq_true (bitlt i j him hbit)]
          rw [e1]
          have e2 : ∀ (os : List Oper) (q : Nat) (c : Act), putb (fun j => decide (j < i)) (fun j => V j v) q os c = putb (fun _ => true) (fun j => V j v) q (os.take (i - q)) c := by
            intro os
            induction os with
            | nil => intro q c; simp [putb]
            | cons o' os ih =>
              intro q c
              by_cases hq : q < i
              · rw [show i - q = (i - (q + 1)) + 1 by omega, List.take_succ_cons]
                simp only [putb, hq, decide_true, if_true]
                exact ih (q + 1) _
              · rw [show i - q = 0 by omega, List.take_zero]
                simp only [putb, hq, decide_false]
                rw [if_neg (by decide), ih (q + 1) c, show i - (q + 1) = 0 by omega, List.take_zero]
                rfl
          rw [e2, Nat.sub_zero, List.take_take, Nat.min_eq_left (by omega)]
        have hev : execOp (putb b (fun j => V j v) 0 (ops.toList.take m) a).eval o = execOp (fr ops m V a v i).eval o := by
          refine execOp_congr o (fun cs b => hsel' i o cs b ho) (fun x hx => ?_)
          cases x with
          | tmp t =>
            have := hops t (List.mem_append_left _ (List.mem_filterMap.2 ⟨.tmp t, by simpa using hx, rfl⟩))
            simp only [Act.eval]
            rw [Array.getD_eq_getD_getElem?, Array.getD_eq_getD_getElem?, this]
          | _ => rfl
        have hwant : Region.wanted o (yielded ops (putb b (fun j => V j v) 0 (ops.toList.take m) a).tmps) = Region.wanted o (yielded ops (fr ops m V a v i).tmps) := by
          unfold Region.wanted
          cases hg : o.guard with
          | none => rfl
          | some g =>
            obtain ⟨gi, gu⟩ := g
            have : yielded ops (putb b (fun j => V j v) 0 (ops.toList.take m) a).tmps gi = yielded ops (fr ops m V a v i).tmps gi := by
              unfold yielded
              cases hgo : (ops[gi]?).bind (·.dst) with
              | none => rfl
              | some t =>
                have := hops t (List.mem_append_right _ (by simp [hg, hgo]))
                simp only [Option.bind_some, this]
            simp only [this]
        have key : ∀ y W', Below w'.heap.size w' W' → R i y w' W' → I (up b i) ((putb b (fun j => V j v) 0 (ops.toList.take m) a).put o.dst (V i (updv v i y))) W' := by
          intro y W' hb' hR
          refine Or.inl ⟨updv v i y, updv W0 i w', updv W1 i W', ?_, fun j hj => by rw [up_ne (by omega)]; exact hbt j hj, below_then hB (by rw [← hsz]; exact hB.size) hb', fun j hj hbj => ?_, fun p q hp hq hpq hbp hbq => ?_⟩
          · rw [hd, ← putb_up (ops.toList.take m) 0 a (Nat.zero_le _) hb (fun o' ho' => by rw [Nat.sub_zero, fl i him, ho] at ho'; cases ho'; exact hd) (by rw [Nat.sub_zero, flen]; exact him) (fun j oj hoj hj => by
              have hjl := (List.getElem?_eq_some_iff.1 hoj).1
              rw [flen] at hjl
              rw [fl j hjl] at hoj
              exact hne j oj hjl (by omega) hoj)]
            refine putb_vals _ 0 a (fun j hj hbj => ?_)
            rw [flen] at hj
            rw [Nat.zero_add] at hbj ⊢
            by_cases hji : j = i
            · subst hji
              rw [updv_self]
            · rw [updv_ne hji]
              rw [up_ne hji] at hbj
              have hnb : (B.getD j 0).testBit i = false := by
                cases hq : (B.getD j 0).testBit i with
                | false => rfl
                | true => rw [hlat j (by omega) hq] at hbj; cases hbj
              rw [← hV j v hj, ← hV j (updv v i y) hj, mask_upd (fun e => hji e.symm) hnb]
          · by_cases hji : j = i
            · subst hji
              rw [updv_self, updv_self, updv_self]
              exact ⟨hR, hB, hb', Below.refl _ _⟩
            · rw [updv_ne hji, updv_ne hji, updv_ne hji]
              rw [up_ne hji] at hbj
              exact (hF j hj hbj).step hb'
          · by_cases hpi : p = i
            · subst hpi
              rw [updv_self, updv_self, updv_ne (Ne.symm hpq), updv_ne (Ne.symm hpq)]
              rw [up_ne (Ne.symm hpq)] at hbq
              exact Or.inr (hF q hq hbq).b2.size
            · by_cases hqi : q = i
              · subst hqi
                rw [updv_self, updv_self, updv_ne hpi, updv_ne hpi]
                rw [up_ne hpi] at hbp
                exact Or.inl (hF p hp hbp).b2.size
              · rw [updv_ne hpi, updv_ne hpi, updv_ne hqi, updv_ne hqi]
                rw [up_ne hpi] at hbp
                rw [up_ne hqi] at hbq
                exact hA p q hp hq hpq hbp hbq
        have st := hs i o him ho v W0 W1 w' hB (fun j hj hbit => hF j hj (hdep j (by omega) hbit))
        unfold wpOp
        rw [ho]
        simp only
        rw [hwant]
        split at st
        · rename_i hwt
          rw [if_pos hwt]
          refine Or.inl ?_
          unfold Oper.wp
          rw [hev]
          refine upon_of st (fun x W' hx => ?_)
          obtain ⟨hb', y, rfl, hR⟩ := hx
          exact key y W' hb' hR
        · rename_i hwt
          rw [if_neg hwt]
          obtain ⟨y, hy, hR⟩ := st
          rw [hy]
          exact key y w' (Below.refl _ _) hR
      · exact absurd ((h3 i hin).2 (by omega)) (by rw [hb]; decide)
    · have hBi := tail i (by omega) hin
      have hlow : ∀ j, j < i → b j = true := fun j hj => hdep j (by omega) (by rw [hBi, Nat.testBit_two_pow_sub_one]; exact decide_eq_true hj)
      have hhigh : ∀ d, i < d → d < n → b d = false := fun d h1 h2 => hlat d h2 (by rw [tail d (by omega) h2, Nat.testBit_two_pow_sub_one]; exact decide_eq_true h1)
      have hlist : wpList P ops Q (ops.toList.drop i) a' w' := by
        rcases hI with ⟨v, W0, W1, rfl, hbt, hB, hF, hA⟩ | ⟨t, h1, h2, h3, h4⟩
        · have him2 : i = m := by
            refine Nat.le_antisymm (Nat.le_of_not_lt (fun h => ?_)) (by omega)
            exact absurd (hlow m h) (by rw [hbt m (Nat.le_refl _)]; decide)
          subst him2
          have e : putb b (fun j => V j v) 0 (ops.toList.take i) a = fr ops i V a v i := by
            unfold fr
            have : ∀ (os : List Oper) (q : Nat) (c : Act), q + os.length ≤ i → putb b (fun j => V j v) q os c = putb (fun _ => true) (fun j => V j v) q os c := by
              intro os
              induction os with
              | nil => intro q c _; rfl
              | cons o' os ih =>
                intro q c hq
                rw [List.length_cons] at hq
                unfold putb
                rw [hlow q (by omega)]
                exact ih (q + 1) _ (by omega)
            exact this _ 0 a (by rw [flen]; omega)
          rw [e]
          exact he v W0 W1 w' hB (fun j hj => hF j hj (hlow j hj)) (fun p q hp hq hpq => hA p q hp hq hpq (hlow p hp) (hlow q hq))
        · have : t = i := by
            have h5 : ¬ i < t := fun h => by rw [(h3 i hin).2 h] at hb; cases hb
            have h6 : ¬ t < i := fun h => absurd ((h3 t (by omega)).1 (hlow t h)) (Nat.lt_irrefl _)
            omega
          subst this
          exact h4
      have hil : i < ops.toList.length := by rw [Array.length_toList]; omega
      rw [List.drop_eq_getElem_cons hil] at hlist
      have ho : ops[i]? = some ops.toList[i] := by rw [← Array.getElem?_toList]; exact List.getElem?_eq_getElem hil
      have hres : wpOp P ops Q i (wpList P ops Q (ops.toList.drop (i + 1))) a' w' := by
        unfold wpOp
        rw [ho]
        exact hlist
      refine wpOp_mono (fun a2 w2 h2 => Or.inr ⟨i + 1, by omega, by omega, fun j hj => ?_, h2⟩) hres
      by_cases hji : j = i
      · subst hji
        rw [up_self]
        exact ⟨fun _ => Nat.lt_succ_self _, fun _ => rfl⟩
      · rw [up_ne hji]
        constructor
        · intro hbj
          refine Nat.lt_succ_of_le (Nat.le_of_not_lt (fun h => ?_))
          rw [hhigh j h hj] at hbj
          cases hbj
        · intro h
          exact hlow j (by omega)
  · -- the end
    have hall' : ∀ j, j < n → b j = true := fun j hj => hall j ((cont j).2 hj)
    rcases hI with ⟨v, W0, W1, rfl, hbt, hB, hF, hA⟩ | ⟨t, h1, h2, h3, h4⟩
    · have hmn2 : m = n := by
        refine Nat.le_antisymm hmn (Nat.le_of_not_lt (fun h => ?_))
        have := hall' m h
        rw [hbt m (Nat.le_refl _)] at this
        cases this
      have e : putb b (fun j => V j v) 0 (ops.toList.take m) a = fr ops m V a v m := by
        unfold fr
        have : ∀ (os : List Oper) (q : Nat) (c : Act), q + os.length ≤ m → putb b (fun j => V j v) q os c = putb (fun _ => true) (fun j => V j v) q os c := by
          intro os
          induction os with
          | nil => intro q c _; rfl
          | cons o' os ih =>
            intro q c hq
            rw [List.length_cons] at hq
            unfold putb
            rw [hall' q (by omega)]
            exact ih (q + 1) _ (by omega)
        exact this _ 0 a (by rw [flen]; omega)
      rw [e]
      have h := he v W0 W1 w' hB (fun j hj => hF j hj (hall' j (by omega))) (fun p q hp hq hpq => hA p q hp hq hpq (hall' p (by omega)) (hall' q (by omega)))
      rw [List.drop_eq_nil_of_le (by rw [Array.length_toList]; omega)] at h
      exact h
    · have : t = n := by
        refine Nat.le_antisymm h2 (Nat.le_of_not_lt (fun h => ?_))
        exact absurd ((h3 t h).1 (hall' t h)) (Nat.lt_irrefl _)
      subst this
      rw [List.drop_eq_nil_of_le (by rw [Array.length_toList]; omega)] at h4
      exact h4
  · -- nothing is listed
    have : ∀ (os : List Oper) (q : Nat) (c : Act), putb (fun _ => false) (fun j => V j fun _ => undef) q os c = c := by
      intro os
      induction os with
      | nil => intro q c; rfl
      | cons o' os ih =>
        intro q c
        unfold putb
        rw [if_neg (by decide)]
        exact ih (q + 1) c
    exact (this _ 0 a).symm
end
end Go.Proofs.Ytepbebelbcbciaa.Q
