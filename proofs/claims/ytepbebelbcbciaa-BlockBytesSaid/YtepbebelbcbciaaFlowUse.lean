/- The use of Flow: a region's operations one by one, in the text's order, each in a world that has grown anyhow. Conditions: as in Flow. -/
import Derived.Test.YtepbebelbcbciaaFlow
import Derived.Test.YtepbebelbcbciaaYWords
namespace Go.Proofs.Ytepbebelbcbciaa.Q
open Go.RowKit Go.Proofs.YtepbebelbcbciaaW.PrintWords Go.Proofs.YtepbebelbcbciaaW.PrintLast
set_option linter.unusedVariables false
set_option linter.unusedSimpArgs false

def noV : (Nat → Value) → Value := fun _ => undef
def noR : Value → World → World → Prop := fun _ _ _ => False
section
variable {P : Program} {ops : Array Oper} {Q : Exit → Act → World → Prop} {T : Bool × List (List Nat × List Nat)} {B : List Nat}
/-- What is left of the flow, from operation k on: A is the frame, Vs the slots' values by the calls' letters, Rs what the calls have told. -/
def Chn (P : Program) (ops : Array Oper) (B : List Nat) (Q : Exit → Act → World → Prop) (w0 : World) (m : Nat) : List Oper → Nat → ((Nat → Value) → Act) → List ((Nat → Value) → Value) → List (Value → World → World → Prop) → Prop
  | [], k, A, _, Rs => ∀ (v : Nat → Value) (W0 W1 : Nat → World) (W : World), Below w0.heap.size w0 W → (∀ j, j < k → Fct (Rs.getD j noR) w0 W (v j) (W0 j) (W1 j)) → (∀ i j, i < k → j < k → i ≠ j → (W1 i).heap.size ≤ (W0 j).heap.size ∨ (W1 j).heap.size ≤ (W0 i).heap.size) → wpList P ops Q (ops.toList.drop m) (A v) W
  | o :: os, k, A, Vs, Rs => ∃ (f : (Nat → Value) → Value) (R : Value → World → World → Prop), (∀ v, f (maskv B k v) = f v) ∧
      (∀ (v : Nat → Value) (W0 W1 : Nat → World) (W : World), Below w0.heap.size w0 W → (∀ j, j < k → (B.getD k 0).testBit j = true → Fct (Rs.getD j noR) w0 W (v j) (W0 j) (W1 j)) →
        if Region.wanted o (yielded ops (A v).tmps) = true then Yld P o (A v).eval W (fun x W' => Below W.heap.size W W' ∧ ∃ y, x = f (updv v k y) ∧ R y W W') else ∃ y, undef = f (updv v k y) ∧ R y W W) ∧
      Chn P ops B Q w0 m os (k + 1) (fun v => (A v).put o.dst (f v)) (Vs ++ [f]) (Rs ++ [R])
theorem getD_snoc {α : Type} {l : List α} {x d : α} {k : Nat} (h : l.length = k) : (l ++ [x]).getD k d = x := by subst h; simp [List.getD_eq_getElem?_getD]
theorem getD_snoc_lt {α : Type} {l : List α} {x d : α} {k j : Nat} (h : l.length = k) (hj : j < k) : (l ++ [x]).getD j d = l.getD j d := by subst h; simp [List.getD_eq_getElem?_getD, List.getElem?_append_left hj]
theorem chn_out {w0 : World} {m : Nat} : ∀ (os : List Oper) (k : Nat) (A : (Nat → Value) → Act) (Vs : List ((Nat → Value) → Value)) (Rs : List (Value → World → World → Prop)), Vs.length = k → Rs.length = k → Chn P ops B Q w0 m os k A Vs Rs →
    ∃ (V : Nat → (Nat → Value) → Value) (R : Nat → Value → World → World → Prop), (∀ j, j < k → V j = Vs.getD j noV ∧ R j = Rs.getD j noR) ∧
      (∀ j o, os[j]? = some o → (∀ v, V (k + j) (maskv B (k + j) v) = V (k + j) v) ∧ ∀ (v : Nat → Value) (W0 W1 : Nat → World) (W : World), Below w0.heap.size w0 W → (∀ q, q < k + j → (B.getD (k + j) 0).testBit q = true → Fct (R q) w0 W (v q) (W0 q) (W1 q)) →
        if Region.wanted o (yielded ops (putb (fun _ => true) (fun q => V q v) k (os.take j) (A v)).tmps) = true then Yld P o (putb (fun _ => true) (fun q => V q v) k (os.take j) (A v)).eval W (fun x W' => Below W.heap.size W W' ∧ ∃ y, x = V (k + j) (updv v (k + j) y) ∧ R (k + j) y W W') else ∃ y, undef = V (k + j) (updv v (k + j) y) ∧ R (k + j) y W W) ∧
      (∀ (v : Nat → Value) (W0 W1 : Nat → World) (W : World), Below w0.heap.size w0 W → (∀ j, j < k + os.length → Fct (R j) w0 W (v j) (W0 j) (W1 j)) → (∀ i j, i < k + os.length → j < k + os.length → i ≠ j → (W1 i).heap.size ≤ (W0 j).heap.size ∨ (W1 j).heap.size ≤ (W0 i).heap.size) → wpList P ops Q (ops.toList.drop m) (putb (fun _ => true) (fun q => V q v) k os (A v)) W)
  | [], k, A, Vs, Rs, _, _, h => ⟨fun j => Vs.getD j noV, fun j => Rs.getD j noR, fun _ _ => ⟨rfl, rfl⟩, (fun j o ho => by simp at ho), fun v W0 W1 W hB hF hA => h v W0 W1 W hB hF hA⟩
  | o :: os, k, A, Vs, Rs, hV, hR, h => by
    obtain ⟨f, R0, hm, hs, hr⟩ := h
    obtain ⟨V, R, e1, e2, e3⟩ := chn_out os (k + 1) _ _ _ (by simp [hV]) (by simp [hR]) hr
    have vk : V k = f := (e1 k (by omega)).1.trans (getD_snoc hV)
    have rk : R k = R0 := (e1 k (by omega)).2.trans (getD_snoc hR)
    refine ⟨V, R, fun j hj => ⟨(e1 j (by omega)).1.trans (getD_snoc_lt hV hj), (e1 j (by omega)).2.trans (getD_snoc_lt hR hj)⟩, fun j o' ho' => ?_, fun v W0 W1 W hB hF hA => ?_⟩
    · cases j with
      | zero =>
        simp only [List.getElem?_cons_zero, Option.some.injEq] at ho'
        subst ho'
        rw [Nat.add_zero, vk, rk, List.take_zero]
        refine ⟨hm, fun v W0 W1 W hB hd => hs v W0 W1 W hB (fun q hq hbit => ?_)⟩
        have := hd q hq hbit
        rw [(e1 q (by omega)).2, getD_snoc_lt hR hq] at this
        exact this
      | succ j =>
        have h1 := e2 j o' (by simpa using ho')
        rw [show k + 1 + j = k + (j + 1) by omega] at h1
        refine ⟨h1.1, fun v W0 W1 W hB hd => ?_⟩
        have h2 := h1.2 v W0 W1 W hB hd
        rw [← vk] at h2
        exact h2
    · have h1 := e3 v W0 W1 W hB (fun j hj => hF j (by simp; omega)) (fun i j hi hj => hA i j (by simp; omega) (by simp; omega))
      rw [← vk] at h1
      exact h1
theorem region_chain {id : Nat} (n m : Nat) {a : Act} {w : World} (hm : P.follows .mixedOrders = true) (hT : rtab .any ops = T) (hw : waitsOk T.2 B = true) (hc : flowB ops T.2 B n m = true)
    (h : Chn P ops B Q w.drew m (ops.toList.take m) 0 (fun _ => a) [] []) : (Code.region id ops true).wp P Q a w := by
  have hmn : m ≤ ops.toList.length := by
    unfold flowB at hc
    simp only [Bool.and_eq_true, beq_iff_eq, decide_eq_true_eq] at hc
    rw [Array.length_toList]
    omega
  have hl : (ops.toList.take m).length = m := by rw [List.length_take]; omega
  obtain ⟨V, R, _, e2, e3⟩ := chn_out _ 0 _ _ _ rfl rfl h
  refine region_flow hm hT hw hc V R (fun k v hk => ?_) (fun k o hk ho v W0 W1 W hB hF => ?_) (fun v W0 W1 W hB hF hA => ?_)
  · have := (e2 k _ (List.getElem?_eq_getElem (by rw [hl]; exact hk))).1 v
    rwa [Nat.zero_add] at this
  · have h1 : (ops.toList.take m)[k]? = some o := by rw [List.getElem?_take_of_lt hk, Array.getElem?_toList]; exact ho
    have h2 := (e2 k o h1).2 v W0 W1 W hB (by rw [Nat.zero_add]; exact fun q hq hbit => hF q (by omega) hbit)
    rw [Nat.zero_add, List.take_take, Nat.min_eq_left (by omega)] at h2
    exact h2
  · have h1 := e3 v W0 W1 W hB (by rw [hl, Nat.zero_add]; exact hF) (by rw [hl, Nat.zero_add]; exact hA)
    exact h1
/-- Cells of blocks that stood at the beginning. -/
def OldCells (w0 W : World) : Prop := ∀ b i, b < w0.heap.size → W.cell? ⟨b, i, none⟩ = w0.cell? ⟨b, i, none⟩
theorem old_cells {w0 W : World} (h : Below w0.heap.size w0 W) : OldCells w0 W := fun b i hb => h.cell (p := ⟨b, i, none⟩) hb
/-- An operation that yields a value and leaves the world. -/
theorem chn_pure {w0 : World} {m k : Nat} {o : Oper} {os : List Oper} {A A' : (Nat → Value) → Act} {Vs : List ((Nat → Value) → Value)} {Rs : List (Value → World → World → Prop)} {f : (Nat → Value) → Value} (hw : ∀ v, Region.wanted o (yielded ops (A v).tmps) = true)
    (hrun : ∀ (v : Nat → Value) (W : World), Below w0.heap.size w0 W → (execOp (A v).eval o).run P W = .ok (.value (f v)) W)
    (hmask : ∀ v, f (maskv B k v) = f v) (hind : ∀ v y, f (updv v k y) = f v) (hA : ∀ v, (A v).put o.dst (f v) = A' v)
    (h : Chn P ops B Q w0 m os (k + 1) A' (Vs ++ [f]) (Rs ++ [fun _ _ _ => True])) : Chn P ops B Q w0 m (o :: os) k A Vs Rs := by
  refine ⟨f, fun _ _ _ => True, hmask, fun v W0 W1 W hB _ => ?_, ?_⟩
  · rw [if_pos (hw v)]
    unfold Yld
    rw [hrun v W hB]
    exact ⟨Below.refl _ _, undef, (hind v undef).symm, trivial⟩
  · rw [show (fun v => (A v).put o.dst (f v)) = A' from funext hA]
    exact h
/-- A call of a function: R is what it tells of its answer y, out of which f makes the slot's value. -/
theorem chn_call {w0 : World} {m k : Nat} {o : Oper} {os : List Oper} {A A' : (Nat → Value) → Act} {Vs : List ((Nat → Value) → Value)} {Rs : List (Value → World → World → Prop)} (fid : FuncId) {fn : Func} {as : Array Operand} {ts : Array TypeId} (hop : o.op = .call { callee := .value (.func fid), args := as, argTypes := ts }) (hw : ∀ v, Region.wanted o (yielded ops (A v).tmps) = true)
    (hf : P.funcs[fid]? = some fn) (hname : (fn.name == "runtime.NumGoroutine") = false) (hb : fn.body.isSome = true) (f : (Nat → Value) → Value) (R : Value → World → World → Prop) (args : (Nat → Value) → Array Value) (hargs : ∀ v, as.map (A v).eval = args v)
    (hmask : ∀ v, f (maskv B k v) = f v) (hA : ∀ v, (A v).put o.dst (f v) = A' v)
    (hcall : ∀ (v : Nat → Value) (W0 W1 : Nat → World) (W : World), Below w0.heap.size w0 W → (∀ j, j < k → (B.getD k 0).testBit j = true → Fct (Rs.getD j noR) w0 W (v j) (W0 j) (W1 j)) → Calls P fid (args v) W fun e W' => ∃ y, e = .returned (f (updv v k y)) ∧ R y W W' ∧ Below W.heap.size W W')
    (h : Chn P ops B Q w0 m os (k + 1) A' (Vs ++ [f]) (Rs ++ [R])) : Chn P ops B Q w0 m (o :: os) k A Vs Rs := by
  refine ⟨f, R, hmask, fun v W0 W1 W hB hd => ?_, ?_⟩
  · rw [if_pos (hw v)]
    have he := enters_ hf hname hb (args v) W
    have hrun : (execOp (A v).eval o).run P W = .ok (.enter fid (args v)) W := by
      unfold execOp
      have := hargs v
      simp [hop, resolve, Deferred.ofValue, invoke, Act.eval, this, he]
    unfold Yld
    rw [hrun]
    refine (hcall v W0 W1 W hB hd).mono fun e W' hx => ?_
    obtain ⟨y, rfl, hR, hb'⟩ := hx
    exact ⟨_, rfl, hb', y, rfl, hR⟩
  · rw [show (fun v => (A v).put o.dst (f v)) = A' from funext hA]
    exact h
end
/-! What was made stays as it was made: facts are told where they were born, and climb when they are asked. -/
theorem lit_C {α : Type} {d : Kd α} {W : World} {g : Nat} {t : TypeId} {f : Nat × Nat} {xs : List α} {cs : List Value} (h : W.heap[g]? = some (.cells cs.toArray t f)) (hr : Reps (d.K W) d.sz xs cs) (hl : xs.length ≤ 9223372036854775807) : d.C W (some ⟨g, 0, none⟩) xs.length xs := by
  refine ⟨rfl, hl, fun _ => ⟨_, rfl, fun j p hj => ⟨_, ?_, hr.2 j p hj, fun i u hu => ?_⟩⟩⟩
  · exact d.K_len (hr.2 j p hj)
  · rw [add_plain]
    have hlen := d.K_len (hr.2 j p hj)
    have hi : i < ((cs.drop (j * d.sz)).take d.sz).length := (List.getElem?_eq_some_iff.1 hu).1
    have h2 := cell_of_row W g (j * d.sz + i) cs.toArray t f h
    rw [h2]
    rw [List.getElem?_take_of_lt (by omega), List.getElem?_drop] at hu
    simpa using hu
theorem lit_int {W : World} {g : Nat} {k : IntKind} {t : TypeId} {f : Nat × Nat} (xs : List Int) (h : W.heap[g]? = some (.cells (xs.map (Value.int k)).toArray t f)) (hl : xs.length ≤ 9223372036854775807 := by decide) : (Kd.int k).C W (some ⟨g, 0, none⟩) xs.length xs := by
  refine lit_C h ⟨by simp [Kd.int, Kd.scalar], fun j p hj => ?_⟩ hl
  have h1 : (xs.map (Value.int k))[j]? = some (.int k p) := by rw [List.getElem?_map, hj]; rfl
  have e : (Kd.int k).sz = 1 := rfl
  rw [e, Nat.mul_one]
  show _ = [Value.int k p]
  have hlt := (List.getElem?_eq_some_iff.1 h1).1
  have hget := (List.getElem?_eq_some_iff.1 h1).2
  rw [List.drop_eq_getElem_cons hlt, List.take_succ_cons, hget]
  rfl
/-- A row of rows, each told by its address and its room. -/
theorem lit_rows {α : Type} {d : Kd α} {W : World} {g : Nat} {t e : TypeId} {f : Nat × Nat} (rs : List (Addr × Nat × List α)) (h : W.heap[g]? = some (.cells (rs.map fun r => Value.slice (some r.1) r.2.2.length r.2.1).toArray t f)) (hr : ∀ r ∈ rs, r.2.2.length ≤ r.2.1 ∧ d.C W (some r.1) r.2.2.length r.2.2) (hl : rs.length ≤ 9223372036854775807 := by simp) : (Kd.slice e d).C W (some ⟨g, 0, none⟩) (rs.map fun r => r.2.2).length (rs.map fun r => r.2.2) := by
  refine lit_C h ⟨by simp [Kd.slice], fun j p hj => ?_⟩ (by simpa using hl)
  rw [List.getElem?_map] at hj
  obtain ⟨r, hr1, rfl⟩ := Option.map_eq_some_iff.1 hj
  have hmem := List.mem_of_getElem? hr1
  have h1 : (rs.map fun r => Value.slice (some r.1) r.2.2.length r.2.1)[j]? = some (.slice (some r.1) r.2.2.length r.2.1) := by rw [List.getElem?_map, hr1]; rfl
  have e1 : (Kd.slice e d).sz = 1 := rfl
  rw [e1, Nat.mul_one]
  have hlt := (List.getElem?_eq_some_iff.1 h1).1
  have hget := (List.getElem?_eq_some_iff.1 h1).2
  rw [List.drop_eq_getElem_cons hlt, List.take_succ_cons, hget]
  exact ⟨some r.1, r.2.1, rfl, (hr r hmem).1, (hr r hmem).2⟩
theorem cl {p q : Prop} (h0 : p) (h : p → q := by intro h0_; repeat (first | exact h0_ | refine Kd.C_below ?_ (by first | assumption | exact Aside0.out (by assumption)) | with_reducible apply Kd.C_drew)) : q := h h0
theorem rl {p q : Prop} (h0 : p) (h : p → q := by intro h0_; repeat (first | exact h0_ | refine Kd.R_below ?_ (by first | assumption | exact Aside0.out (by assumption)) | with_reducible apply Kd.R_drew)) : q := h h0
theorem vl {p q : Prop} (h0 : p) (h : p → q := by intro h0_; repeat (first | exact h0_ | refine Kd.V_below ?_ (by first | assumption | exact Aside0.out (by assumption)) | with_reducible apply Kd.V_drew)) : q := h h0
theorem bl {p q : Prop} (h0 : p) (h : p → q := by intro h0_; repeat (first | exact h0_ | refine blk_below ?_ (by first | assumption | exact Aside0.out (by assumption)) | with_reducible apply blk_drew)) : q := h h0
/-- All that has grown since. -/
theorem gl {w w1 : World} (h : Below w.heap.size w w1 := by repeat (first | with_reducible exact Below.refl _ _ | with_reducible assumption | with_reducible exact Aside0.out (by assumption) | refine below_step ?_ (by first | assumption | exact Aside0.out (by assumption)) | apply below_drew1)) : Below w.heap.size w w1 := h
section
variable {P : Program} {ops : Array Oper} {rest : List Oper} {o : Oper} {a : Act} {Q : Exit → Act → World → Prop}
/-- A row written out. -/
theorem sxe {W : World} {N : Tmp} {cs : Array Value} {t : TypeId} {n : Nat}
    (h : ∀ g, g = W.heap.size → ∀ w1, w1.heap[g]? = some (.cells cs t (0, 0)) → Below W.heap.size W w1 → wpList P ops Q rest (a.put o.dst (.slice (some ⟨g, 0, none⟩) n n)) w1)
    (hgd : o.guard = none := by rfl) (hd : o.dst = some N := by rfl)
    (hrun : (execOp a.eval o).run P W = .ok (.value (.slice (some ⟨W.heap.size, 0, none⟩) n n)) (W.alloc (.cells cs t (0, 0))) := by first | (go_simp; done) | (go_simp; rfl)) : wpList P ops Q (o :: rest) a W := Kd.event_run hgd hrun (h _ rfl _ (blk_new W _) (below_alloc (Below.refl _ _) _))
end
end Go.Proofs.Ytepbebelbcbciaa.Q
