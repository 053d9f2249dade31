/- What functions of the program come to, on trees. No condition but those that the theorems name. -/
import Derived.Test.YtcngjnhdemjomaaPC7
namespace Go.Proofs.Ytcngjnhdemjomaa.T
set_option linter.unusedSimpArgs false
set_option linter.unusedVariables false
open Go Go.RowKit
set_option linter.unusedVariables false
set_option linter.unusedSimpArgs false
def AV.bz1 : AV → AV
  | .pv _ _ _ => .any
  | .ea _ _ _ _ _ => .any
  | .ptr _ _ => .any
  | .psl _ => .any
  | .pfa _ _ => .any
  | .agg _ => .any
  | .tup _ => .any
  | v => v.fz
def AV.bz : AV → AV
  | .agg l => .agg (l.map AV.bz1)
  | v => v.bz1
def cellsB (g : St) (n : Nat) : Nat → Nat → List AV
  | _, 0 => []
  | c, z + 1 => (g.get (loc n c)).bz1 :: cellsB g n (c + 1) z
def borV (g : St) (v : AV) : AV := match v with
  | .ptr n 0 => match g.get (loc n 999) with
    | .i .i64 (.ofNat z) => .fa (cellsB g n 0 z)
    | _ => .any
  | v => v.bz
def borS (g : St) : St → St
  | [] => []
  | (l, v) :: r => if l < 1000 then (l, borV g v) :: borS g r else borS g r
theorem borS_get (g : St) (k : Nat) : ∀ r : St, (borS g r).get k = if k < 1000 then borV g (r.get k) else .any
  | [] => by simp [borS, St.get, borV, AV.bz, AV.bz1, AV.fz]
  | (l, v) :: r => by
    have ih := borS_get g k r
    unfold borS
    have e0 : St.get ((l, v) :: r) k = if l = k then v else St.get r k := rfl
    rw [e0]
    by_cases hl : l < 1000
    · rw [if_pos hl]
      have e1 : St.get ((l, borV g v) :: borS g r) k = if l = k then borV g v else St.get (borS g r) k := rfl
      rw [e1, ih]
      by_cases e : l = k
      · subst e; simp [hl]
      · simp [e]
    · rw [if_neg hl, ih]
      by_cases e : l = k
      · subst e; simp [hl]
      · simp [e]
def cellsK (g : St) (n : Nat) : Nat → Nat → (List AV → Prop) → Prop
  | _, 0, K => K []
  | c, z + 1, K => g.getK (loc n c) fun v => v.bz1.fc fun v => cellsK g n (c + 1) z fun l => K (v :: l)
theorem cellsK_eq (g : St) (n : Nat) : ∀ (z c : Nat) (K : List AV → Prop), cellsK g n c z K = K (cellsB g n c z)
  | 0, c, K => rfl
  | z + 1, c, K => by unfold cellsK cellsB; rw [St.getK_eq, AV.fc_eq, cellsK_eq g n z]
def borVK (g : St) (v : AV) (K : AV → Prop) : Prop := match v with
  | .ptr n 0 => g.getK (loc n 999) fun f => match f with
    | .i .i64 (.ofNat z) => cellsK g n 0 z fun l => K (.fa l)
    | _ => K .any
  | v => v.bz.fc K
theorem borVK_eq (g : St) (v : AV) (K : AV → Prop) : borVK g v K = K (borV g v) := by
  unfold borVK borV
  split
  · rw [St.getK_eq]
    split
    · rw [cellsK_eq]
    · rfl
  · rw [AV.fc_eq]
def borK (g : St) : St → (St → Prop) → Prop
  | [], K => K []
  | (l, v) :: r, K => match Nat.blt l 1000 with
    | true => borVK g v fun v => borK g r fun r => K ((l, v) :: r)
    | false => borK g r K
theorem borK_eq (g : St) : ∀ (r : St) (K : St → Prop), borK g r K = K (borS g r)
  | [], K => rfl
  | (l, v) :: r, K => by
    unfold borK borS
    by_cases h : l < 1000
    · have : Nat.blt l 1000 = true := by simp [Nat.blt_eq, h]
      rw [this, if_pos h, borVK_eq, borK_eq g r]
    · have : Nat.blt l 1000 = false := by
        cases hb : Nat.blt l 1000 with
        | false => rfl
        | true => rw [Nat.blt_eq] at hb; exact absurd hb h
      rw [this, if_neg h, borK_eq g r]
/-- Not a place. -/
def AV.np : AV → AV
  | .pv _ _ _ => .any
  | v => v
/-- What holds nothing else. -/
def AV.cl : AV → AV
  | .b x => .b x
  | .i k n => .i k n
  | .s x => .s x
  | .sl (some _) nl sz false l => .sl (some 0) nl sz false l
  | _ => .any
def oldS (keep : List Nat) (g : St) : List Nat → St
  | [] => []
  | l :: ls => (l, (kpx keep g (g.get l)).np) :: oldS keep g ls
theorem oldS_get (keep : List Nat) (g : St) (j : Nat) : ∀ ls : List Nat, (oldS keep g ls).get j = if j ∈ ls then (kpx keep g (g.get j)).np else .any
  | [] => rfl
  | l :: ls => by
    have ih := oldS_get keep g j ls
    unfold oldS
    have e1 : St.get ((l, (kpx keep g (g.get l)).np) :: oldS keep g ls) j = if l = j then (kpx keep g (g.get l)).np else St.get (oldS keep g ls) j := rfl
    rw [e1, ih]
    by_cases h : l = j
    · subst h; simp
    · have : ¬ j = l := fun e => h e.symm
      simp [h, this]
def oldK (keep : List Nat) (g : St) : List Nat → (St → Prop) → Prop
  | [], K => K []
  | l :: ls, K => g.getK l fun v => ((kpx keep g v).np).fc fun v => oldK keep g ls fun r => K ((l, v) :: r)
theorem oldK_eq (keep : List Nat) (g : St) : ∀ (ls : List Nat) (K : St → Prop), oldK keep g ls K = K (oldS keep g ls)
  | [], K => rfl
  | l :: ls, K => by unfold oldK oldS; rw [St.getK_eq, AV.fc_eq, oldK_eq keep g ls]
def newS (g : St) (O : St) : List Nat → St
  | [] => O
  | l :: ls => (l, (g.get l).cl) :: newS g O ls
theorem newS_get (g O : St) (j : Nat) : ∀ ls : List Nat, (newS g O ls).get j = if j ∈ ls then (g.get j).cl else O.get j
  | [] => rfl
  | l :: ls => by
    have ih := newS_get g O j ls
    unfold newS
    have e1 : St.get ((l, (g.get l).cl) :: newS g O ls) j = if l = j then (g.get l).cl else St.get (newS g O ls) j := rfl
    rw [e1, ih]
    by_cases h : l = j
    · subst h; simp
    · have : ¬ j = l := fun e => h e.symm
      simp [h, this]
def newK (g : St) (O : St) : List Nat → (St → Prop) → Prop
  | [], K => K O
  | l :: ls, K => g.getK l fun v => v.cl.fc fun v => newK g O ls fun r => K ((l, v) :: r)
theorem newK_eq (g O : St) : ∀ (ls : List Nat) (K : St → Prop), newK g O ls K = K (newS g O ls)
  | [], K => rfl
  | l :: ls, K => by unfold newK newS; rw [St.getK_eq, AV.fc_eq, newK_eq g O ls]
/-- What a slot d holds by two copies: op p assigns to it what op q took out of a tuple t (component j). -/
def viaB (ops : List Oper) (p q : Nat) : Option (Nat × Nat × Nat) := match ops[p]?, ops[q]? with
  | some o, some o' => match o.op, o.dst, o.guard, o'.op, o'.dst, o'.guard with
    | .assign (.tmp s), some d, none, .extract (.tmp t) j, some s', none => if s = s' then some (d, t, j) else none
    | _, _, _, _, _, _ => none
  | _, _ => none
def srcB (o : Oper) : Option Nat := match o.op with
  | .assign (.tmp t) => some t
  | .extract (.tmp t) _ => some t
  | _ => none
/-- Nobody else writes what operation i writes; who writes what it copies is ahead of it. -/
def soleB (ops : List Oper) (ms : List Nat) (i : Nat) : Bool := match ops[i]? with
  | some o => match o.dst, srcB o with
    | some d, some t => t != d && (List.range ops.length).all fun k => match ops[k]? with
      | some o' => match o'.dst with
        | some e => (e != d || k == i) && (e != t || (Nat.blt k i && (ms.getD i 0).testBit k))
        | none => true
      | none => true
    | _, _ => false
  | none => false
def compB (g : St) (t j : Nat) : AV := match g.get t with
  | .tup l => (l.getD j .any).cl
  | _ => .any
/-- The places kept are no destinations, those made are slots. -/
def keepB (N : Nat) (ops : List Oper) (ko kn : List Nat) (vs : List (Nat × Nat × Nat)) : Bool := ko.all (fun l => !(ops.any fun o => match o.dst with
  | some d => d == l
  | none => false) && !(kn.contains l) && !(vs.any fun v => v.1 == l)) && kn.all (fun l => Nat.blt l 1000 && !(vs.any fun v => v.1 == l || v.2.1 == l)) && decide ((vs.map (·.1)).Nodup) && decide ((vs.map (·.2)).Nodup) && vs.all (fun v => Nat.blt v.1 N)
def newT (g : St) (O : St) : List (Nat × Nat × Nat) → St
  | [] => O
  | (d, t, j) :: ls => (d, compB g t j) :: newT g O ls
theorem newT_get (g O : St) (l : Nat) : ∀ ls : List (Nat × Nat × Nat), (newT g O ls).get l = match ls.find? (fun v => v.1 == l) with
    | some v => compB g v.2.1 v.2.2
    | none => O.get l
  | [] => rfl
  | (d, t, j) :: ls => by
    have ih := newT_get g O l ls
    unfold newT
    have e1 : St.get ((d, compB g t j) :: newT g O ls) l = if d = l then compB g t j else St.get (newT g O ls) l := rfl
    rw [e1, ih, List.find?_cons]
    by_cases h : d = l
    · simp [h]
    · have : ((d, t, j).1 == l) = false := by simp [h]
      rw [this, if_neg h]
def newTK (g : St) (O : St) : List (Nat × Nat × Nat) → (St → Prop) → Prop
  | [], K => K O
  | (d, t, j) :: ls, K => g.getK t fun v => (match v with
    | .tup l => (l.getD j .any).cl
    | _ => .any).fc fun v => newTK g O ls fun r => K ((d, v) :: r)
theorem newTK_eq (g O : St) : ∀ (ls : List (Nat × Nat × Nat)) (K : St → Prop), newTK g O ls K = K (newT g O ls)
  | [], K => rfl
  | (d, t, j) :: ls, K => by unfold newTK newT compB; rw [St.getK_eq, AV.fc_eq, newTK_eq g O ls]
section
variable {P : Program} {W0 : Bs} {N : Nat} {G G' : Gh} {g g' : Nat → AV} {a a' : Act} {w w' : World} {E : Env} {ops : Array Oper} {st : St} {K : Exit → St → Prop}
theorem bz1_flat (v : AV) : (∀ l, v.bz1 ≠ .agg l) ∧ (∀ l, v.bz1 ≠ .tup l) ∧ v.bz1.pst = [] ∧ v.bz1.pbx = [] ∧ v.bz1.own1 = false := by
  cases v with
  | sl o nl sz dp l => cases dp <;> (refine ⟨?_, ?_, rfl, rfl, rfl⟩ <;> (intro l h; cases h))
  | _ => refine ⟨?_, ?_, rfl, rfl, rfl⟩ <;> (intro l h; cases h)
theorem bz1_rp {w : World} {F F' : Nat → Prop} {e : AV} {y : Value} {ts : List Nat} (h : Rp w F e [y] ts) (hF : ∀ b, F b → F' b) (ht : ∀ b ∈ ts, F' b) (hna : ∀ l, e ≠ .agg l) : Rp w F' e.bz1 [y] [] := by
  cases e with
  | agg l => exact absurd rfl (hna l)
  | tup l => cases h
  | pv => cases h
  | ea => cases h
  | ptr => cases h
  | psl => cases h
  | pfa => cases h
  | _ => exact h.toFz hF ht
theorem cellsB_len (g : St) (n : Nat) : ∀ (z c : Nat), (cellsB g n c z).length = z
  | 0, _ => rfl
  | z + 1, c => by unfold cellsB; rw [List.length_cons, cellsB_len g n z]
theorem cellsB_get (g : St) (n : Nat) : ∀ (z c j : Nat), j < z → (cellsB g n c z)[j]? = some (g.get (loc n (c + j))).bz1
  | z + 1, c, 0, _ => rfl
  | z + 1, c, j + 1, h => by
    unfold cellsB
    rw [List.getElem?_cons_succ, cellsB_get g n z (c + 1) j (by omega)]
    congr 3
    unfold loc
    omega
theorem bor_rel (h : Rel W0 N G st.get a w []) : Rel ⟨w, fun b => b < w.heap.size, fun _ => False⟩ N ⟨fun b => b < w.heap.size, fun _ => none, fun _ => []⟩ (borS st st).get a w [] := by
  refine ⟨h.hN, h.hs, h.hd, ⟨rfl, rfl, rfl, Nat.le_refl _, fun _ _ _ => rfl, fun _ hk => hk.elim⟩, fun t ht => ?_, fun t h1 h2 => ?_, fun n b z hb => (by cases hb), fun _ _ => rfl, fun n b z hb => (by cases hb), fun n m b z z' hb => (by cases hb), fun l b hb => (by cases hb), fun _ => List.nodup_nil, fun l l' b hb => (by cases hb), fun b hb => hb, fun b hb => .inl hb, fun b hb => (by cases hb), List.nodup_nil, fun b hb => hb.elim⟩
  · have hsl := h.sl t ht
    have hN := h.hN
    rw [borS_get, if_pos (by omega)]
    have hts : ∀ b ∈ G.tk t, b < w.heap.size := fun b hb => (h.tk t b hb).2.1
    generalize G.tk t = ts at hsl hts
    generalize st.get t = v at hsl
    unfold borV
    split
    · rename_i n
      obtain ⟨_, b, z, hb, hx⟩ := hsl
      split
      · rename_i z' hz'
        have hzz := h.bs n b z hb _ hz'
        have hzz : z' = z := by have : (z' : Int) = z := hzz; omega
        subst hzz
        obtain ⟨x1, x2, x3, x4, arr, ty, x5, x6, x7⟩ := h.bx n b z' hb
        rw [hx]
        refine .fa (us := fun j => arr.getD j undef) x3 (fun j e he => ?_) (fun j e he => ?_) (fun j hj => ?_)
        · have hj := lt_of_get he
          rw [cellsB_len] at hj
          rw [cellsB_get _ _ _ _ _ hj] at he
          cases he
          exact (bz1_flat _).1
        · have hj := lt_of_get he
          rw [cellsB_len] at hj
          rw [cellsB_get _ _ _ _ _ hj] at he
          cases he
          rw [Nat.zero_add]
          have hy := x7 j (arr.getD j undef) hj (by rw [Array.getD_eq_getD_getElem?, Array.getElem?_eq_getElem (by omega)]; rfl)
          exact bz1_rp hy.rp (fun b hb => h.F b hb) (fun b hb => (h.tk _ b hb).2.1) hy.na
        · rw [cellsB_len] at hj
          rw [Nat.zero_add, cell_of_block x5, Array.getD_eq_getD_getElem?, Array.getElem?_eq_getElem (by omega)]; rfl
      · exact rfl
    · cases v with
      | agg l =>
        obtain ⟨arr, e, hs, tf, e2, hc⟩ := hsl
        refine ⟨arr, e, by rw [List.length_map]; exact hs, fun _ => [], by simp, fun j e' y he hy => ?_⟩
        rw [List.getElem?_map] at he
        cases hl : l[j]? with
        | none => rw [hl] at he; cases he
        | some e0 =>
          rw [hl] at he
          cases he
          have hrc := hc j e0 y hl hy
          have hin : ∀ b ∈ tf j, b < w.heap.size := fun b hb => hts b (by rw [e2]; exact mem_flat (lt_of_get hl) hb)
          have hone : y.oneCell' = true := by
            cases e0 with
            | pv r ix ss => exact hrc.2.1
            | agg l => exact hrc.elim
            | _ => obtain ⟨u, e, h1⟩ := Rp.one hrc (fun l e => by cases e); cases e; exact h1
          cases e0 with
          | pv => exact .any hone
          | agg l => exact hrc.elim
          | ea => cases hrc
          | ptr => cases hrc
          | psl => cases hrc
          | pfa => cases hrc
          | tup => cases hrc
          | sl o nl sz dp l =>
            have := bz1_rp (F' := fun b => b < w.heap.size) (show Rp w G.F (.sl o nl sz dp l) [y] (tf j) from hrc) (fun b hb => h.F b hb) hin (fun l e => by cases e)
            cases dp <;> exact this
          | any => exact bz1_rp (F' := fun b => b < w.heap.size) (show Rp w G.F .any [y] (tf j) from hrc) (fun b hb => h.F b hb) hin (fun l e => by cases e)
          | b x => exact bz1_rp (F' := fun b => b < w.heap.size) (show Rp w G.F (.b x) [y] (tf j) from hrc) (fun b hb => h.F b hb) hin (fun l e => by cases e)
          | i k n => exact bz1_rp (F' := fun b => b < w.heap.size) (show Rp w G.F (.i k n) [y] (tf j) from hrc) (fun b hb => h.F b hb) hin (fun l e => by cases e)
          | s x => exact bz1_rp (F' := fun b => b < w.heap.size) (show Rp w G.F (.s x) [y] (tf j) from hrc) (fun b hb => h.F b hb) hin (fun l e => by cases e)
          | fa x => exact bz1_rp (F' := fun b => b < w.heap.size) (show Rp w G.F (.fa x) [y] (tf j) from hrc) (fun b hb => h.F b hb) hin (fun l e => by cases e)
      | any => exact rfl
      | tup l => exact rfl
      | ptr n o => exact rfl
      | pv => exact rfl
      | ea => exact rfl
      | psl => exact rfl
      | pfa => exact rfl
      | sl o nl sz dp l =>
        have := bz1_rp (F' := fun b => b < w.heap.size) (show Rp w G.F (.sl o nl sz dp l) [a.tmps.getD t undef] ts from hsl) (fun b hb => h.F b hb) hts (fun l e => by cases e)
        cases dp <;> exact this
      | b x => exact bz1_rp (F' := fun b => b < w.heap.size) (show Rp w G.F (.b x) [a.tmps.getD t undef] ts from hsl) (fun b hb => h.F b hb) hts (fun l e => by cases e)
      | i k n => exact bz1_rp (F' := fun b => b < w.heap.size) (show Rp w G.F (.i k n) [a.tmps.getD t undef] ts from hsl) (fun b hb => h.F b hb) hts (fun l e => by cases e)
      | s x => exact bz1_rp (F' := fun b => b < w.heap.size) (show Rp w G.F (.s x) [a.tmps.getD t undef] ts from hsl) (fun b hb => h.F b hb) hts (fun l e => by cases e)
      | fa x => exact bz1_rp (F' := fun b => b < w.heap.size) (show Rp w G.F (.fa x) [a.tmps.getD t undef] ts from hsl) (fun b hb => h.F b hb) hts (fun l e => by cases e)
  · rw [borS_get, if_pos h2, h.sz t h1 h2]; rfl
theorem np_pst (keep : List Nat) (g : St) (v : AV) : (kpx keep g v).np.pst = [] := by
  have hc : ∀ l : List AV, ∀ x ∈ kcL l, x.pst1 = [] := by
    intro l
    induction l with
    | nil => intro x hx; cases hx
    | cons v l ih =>
      intro x hx
      rcases List.mem_cons.1 hx with rfl | hx
      · cases v with
        | sl o nl sz dp l => cases o <;> rfl
        | _ => rfl
      · exact ih x hx
  have h3 : ∀ v : AV, v.kc3.np.pst = [] := by
    intro v
    cases v with
    | agg l =>
      refine List.eq_nil_iff_forall_not_mem.2 fun x hx => ?_
      obtain ⟨e, he, hx⟩ := List.mem_flatMap.1 hx
      rw [hc l e he] at hx
      cases hx
    | sl o nl sz dp l => cases o <;> rfl
    | _ => rfl
  unfold kpx
  split
  · split <;> rfl
  · split <;> rfl
  · split
    · split
      · split <;> rfl
      · rfl
    · rfl
  · exact h3 _
theorem cl_rp {v : AV} (hv : v.cl ≠ .any) {x : Value} {ts : List Nat} (h : RV G g a w v x ts) {F' : Nat → Prop} : RT w F' v.cl x ts := by
  have ha : v.cl.allown = true := by
    cases v with
    | sl o nl sz dp l => cases o <;> cases dp <;> first | rfl | exact absurd rfl hv
    | _ => first | rfl | exact absurd rfl hv
  refine rt_allown (F := G.F) ?_ ha
  cases v with
  | sl o nl sz dp l =>
    cases o with
    | none => exact absurd rfl hv
    | some s =>
      cases dp with
      | true => exact absurd rfl hv
      | false =>
        have h : Rp w G.F (.sl (some s) nl sz false l) [x] ts := h
        exact h.st1 0
  | b y => exact h
  | i k n => exact h
  | s y => exact h
  | _ => exact absurd rfl hv
theorem path_nil {v c : AV} {ix : List Nat} {rb : AV → AV} (h : Path v ix [] c rb) : False := by cases h
/-- What was there ahead of the region, and what is new. -/
theorem bor_fin {O g2 st3 : St} {G0 G2 : Gh} (hr0 : Rel W0 N G0 O.get a w []) (hr2 : Rel ⟨w, fun b => b < w.heap.size, fun _ => False⟩ N G2 g2.get a' w' []) (hOp : ∀ l, (O.get l).pst = []) (hst : ∀ t, O.get t ≠ .any → a'.tmps.getD t undef = a.tmps.getD t undef) (D : Nat → Prop) (nv : Nat → AV) (nt : Nat → List Nat) (h1 : ∀ l, D l → l < 1000) (h2 : ∀ l, D l → l < N → ∀ (G : Gh) (g : Nat → AV), G.F = G0.F → RV G g a' w' (nv l) (a'.tmps.getD l undef) (nt l)) (h4 : ∀ l, D l → N ≤ l → nv l = .any) (h5 : ∀ l, D l → (nv l).pst = []) (h6 : ∀ l, D l → ∀ b ∈ nt l, w.heap.size ≤ b ∧ b < w'.heap.size) (h7 : ∀ l, D l → (nt l).Nodup) (h8 : ∀ l l' b, D l → D l' → b ∈ nt l → b ∈ nt l' → l = l') (h3 : ∀ l, (D l → st3.get l = nv l) ∧ (¬ D l → st3.get l = O.get l)) : Sat W0 N st3 a' w' := by
  classical
  have hbl : Below w.heap.size w w' := ⟨hr2.fr.os, hr2.fr.tape, hr2.fr.output, hr2.fr.size, fun k hk => hr2.fr.block k hk (fun h => h)⟩
  have hwsz : W0.w.heap.size ≤ w.heap.size := hr0.fr.size
  have hblk : ∀ b, b < w.heap.size → w'.heap[b]? = w.heap[b]? := hbl.block
  refine ⟨fun l s hs => ?_, ⟨G0.F, G0.bx, fun l => if D l then nt l else G0.tk l⟩, ?_⟩
  · by_cases hd : D l
    · rw [(h3 l).1 hd, h5 l hd] at hs; cases hs
    · rw [(h3 l).2 hd, hOp] at hs; cases hs
  have hsub : ∀ l b, b ∈ (if D l then nt l else G0.tk l) → (D l ∧ b ∈ nt l) ∨ (¬ D l ∧ b ∈ G0.tk l) := fun l b hb => by
    by_cases hd : D l
    · rw [if_pos hd] at hb; exact .inl ⟨hd, hb⟩
    · rw [if_neg hd] at hb; exact .inr ⟨hd, hb⟩
  have hbig : ∀ n c, ¬ D (loc n c) := fun n c h => by have := h1 _ h; have := loc_ge n c; omega
  refine ⟨hr2.hN, hr2.hs, hr2.hd, hr0.fr.trans ⟨hbl.os, hbl.tape, hbl.output, hbl.size, fun k hk => hblk k (by omega)⟩, fun t ht => ?_, fun t t1 t2 => ?_, fun n b z hb' => ?_, fun n hn => ?_, fun n b z hb' z' hz' => ?_, hr0.bi, fun l b hb' => ?_, fun l => ?_, fun l l' b k1 k2 => ?_, fun b hb' => Nat.lt_of_lt_of_le (hr0.F b hb') hbl.size, hr0.f0, fun b hb' => (by cases hb'), List.nodup_nil, fun b hb' z hz => ?_⟩
  · by_cases hd : D t
    · rw [(h3 t).1 hd]
      dsimp only
      rw [if_pos hd]
      exact h2 t hd ht _ _ rfl
    · rw [(h3 t).2 hd]
      dsimp only
      rw [if_neg hd]
      by_cases hv : O.get t = .any
      · have k1 := hr0.sl t ht
        rw [hv] at k1 ⊢
        exact k1
      · rw [hst t hv]
        refine (hr0.sl t ht).mono (fun b hb' => hb') (fun b hb' => hblk b (hr0.F b hb')) (fun b hb' => hblk b (hr0.tk t b hb').2.1) (fun n _ => rfl) (fun r ix ss hss s nl sz dp c rb hpa => ?_)
        have : ss = [] := by
          cases ss with
          | nil => rfl
          | cons x xs => have := hss x List.mem_cons_self; rw [hOp] at this; cases this
        subst this
        exact (path_nil hpa).elim
  · by_cases hd : D t
    · rw [(h3 t).1 hd]; exact h4 t hd t1
    · rw [(h3 t).2 hd]; exact hr0.sz t t1 t2
  · obtain ⟨x1, x2, x3, x4, arr, ty, x5, x6, x7⟩ := hr0.bx n b z hb'
    refine ⟨x1, x2, Nat.lt_of_lt_of_le x3 hbl.size, x4, arr, ty, (hblk b x3).trans x5, x6, fun c y hc hy => ?_⟩
    rw [(h3 _).2 (hbig n c)]
    dsimp only
    rw [if_neg (hbig n c)]
    exact (x7 c y hc hy).move (fun b hb' => hb') (fun b hb' => hblk b (hr0.F b hb')) (fun b hb' => hblk b (hr0.tk _ b hb').2.1)
  · rw [(h3 _).2 (hbig n 999)] at hn
    exact hr0.bn n hn
  · rw [(h3 _).2 (hbig n 999)] at hz'
    exact hr0.bs n b z hb' z' hz'
  · rcases hsub l b hb' with ⟨hd, k1⟩ | ⟨_, k1⟩
    · obtain ⟨k2, k3⟩ := h6 l hd b k1
      refine ⟨by omega, k3, fun hf => ?_, fun n z hn => ?_⟩
      · have := hr0.F b hf; omega
      · have := (hr0.bx n b z hn).2.2.1; omega
    · obtain ⟨k2, k3, k4, k5⟩ := hr0.tk l b k1
      exact ⟨k2, Nat.lt_of_lt_of_le k3 hbl.size, k4, k5⟩
  · by_cases hd : D l
    · dsimp only; rw [if_pos hd]; exact h7 l hd
    · dsimp only; rw [if_neg hd]; exact hr0.tn l
  · rcases hsub l b k1 with ⟨d1, k3⟩ | ⟨_, k3⟩ <;> rcases hsub l' b k2 with ⟨d2, k4⟩ | ⟨_, k4⟩
    · exact h8 l l' b d1 d2 k3 k4
    · have := (h6 l d1 b k3).1; have := (hr0.tk l' b k4).2.1; omega
    · have := (h6 l' d2 b k4).1; have := (hr0.tk l b k3).2.1; omega
    · exact hr0.td l l' b k3 k4
  · rw [(h3 _).2 (hbig 2000 999)] at hz
    exact hr0.p0 b hb' z hz
theorem cl_pst (v : AV) : v.cl.pst = [] := by
  cases v with
  | sl o nl sz dp l => cases o <;> cases dp <;> rfl
  | _ => rfl
/-- A closed value, whatever else is frozen. -/
theorem cl_rv {w : World} {F : Nat → Prop} {v : AV} {x : Value} {ts : List Nat} (h : v.cl ≠ .any → RT w F v.cl x ts) (G : Gh) (g : Nat → AV) : RV G g a w v.cl x (if v.cl.own1 = true then ts else []) := by
  by_cases hv : v.cl = .any
  · rw [hv, if_neg (by decide)]; exact rfl
  · have h1 := rt_allown (F' := G.F) (h hv) (by
      cases v with
      | sl o nl sz dp l => cases o <;> cases dp <;> first | rfl | exact absurd rfl hv
      | _ => first | rfl | exact absurd rfl hv)
    cases v with
    | sl o nl sz dp c =>
      cases o with
      | none => exact absurd rfl hv
      | some s =>
        cases dp with
        | true => exact absurd rfl hv
        | false =>
          have e : (AV.sl (some s) nl sz false c).cl.own1 = true := rfl
          rw [if_pos e]; exact h1
    | b y =>
      rw [if_neg (by simp [AV.cl, AV.own1])]
      have h1 : Rp w G.F (.b y) [x] ts := h1
      have e := Rp.noTok h1 rfl (fun l e => by cases e)
      rw [e] at h1; exact h1
    | i k n =>
      rw [if_neg (by simp [AV.cl, AV.own1])]
      have h1 : Rp w G.F (.i k n) [x] ts := h1
      have e := Rp.noTok h1 rfl (fun l e => by cases e)
      rw [e] at h1; exact h1
    | s y =>
      rw [if_neg (by simp [AV.cl, AV.own1])]
      have h1 : Rp w G.F (.s y) [x] ts := h1
      have e := Rp.noTok h1 rfl (fun l e => by cases e)
      rw [e] at h1; exact h1
    | _ => exact absurd rfl hv
theorem cl_rt {w : World} {F : Nat → Prop} {v : AV} (hv : v.cl ≠ .any) {x : Value} {ts : List Nat} (h : RW w F v x ts) : RT w F v.cl x ts := by
  cases v with
  | sl o nl sz dp l =>
    cases o with
    | none => exact absurd rfl hv
    | some s =>
      cases dp with
      | true => exact absurd rfl hv
      | false =>
        have h : Rp w F (.sl (some s) nl sz false l) [x] ts := h
        exact h.st1 0
  | b y => exact h
  | i k n => exact h
  | s y => exact h
  | _ => exact absurd rfl hv
theorem sole_of {ops : Array Oper} {i : Nat} (h : soleB ops.toList (masks ops.toList []) i = true) : Sole ops (anB ops) i := by
  intro o ho d hd
  unfold soleB at h
  rw [Array.getElem?_toList, ho] at h
  dsimp only at h
  rw [hd] at h
  cases hs : srcB o with
  | none => rw [hs] at h; cases h
  | some t0 =>
    rw [hs] at h
    dsimp only at h
    rw [Bool.and_eq_true, List.all_eq_true] at h
    obtain ⟨h0, h1⟩ := h
    have key : ∀ (k : Nat) (o' : Oper) (e : Nat), ops[k]? = some o' → o'.dst = some e → (e = d → k = i) ∧ (e = t0 → anB ops i k) := by
      intro k o' e hk he
      have hkl := (Array.getElem?_eq_some_iff.1 hk).1
      have h2 := h1 k (by simpa using hkl)
      rw [Array.getElem?_toList, hk] at h2
      dsimp only at h2
      rw [he] at h2
      simp only [Bool.and_eq_true, Bool.or_eq_true, bne_iff_ne, ne_eq, beq_iff_eq, Nat.blt_eq] at h2
      refine ⟨fun e1 => h2.1.resolve_left (fun h => h e1), fun e1 => ?_⟩
      have := h2.2.resolve_left (fun h => h e1)
      exact ⟨this.1, this.2⟩
    refine ⟨fun k o' hk he => (key k o' d hk he).1 rfl, fun t ht => ?_⟩
    have htt : t = t0 := by
      unfold srcB at hs
      split at hs
      · rename_i t1 hop; rw [hop] at ht; cases hs; exact ht.symm
      · rename_i t1 q hop; rw [hop] at ht; cases hs; exact ht.symm
      · cases hs
    subst htt
    exact ⟨by simpa using h0, fun k o' hk he => (key k o' t hk he).2 rfl⟩
/-- A region that reads only what was there. ko: what is kept of it; kn: what is kept of what it makes; pq, vs: what is kept out of tuples that it makes, with the operations that bring it there. -/
theorem WP.regionB {id : Nat} {draw : Bool} (pq : List (Nat × Nat)) (vs : List (Nat × Nat × Nat)) (hm : P.follows .mixedOrders = true) (hE : E.tb.okB P = true) (hpq : (pq.map fun x => viaB ops.toList x.1 x.2) = vs.map some) (hso : (pq.all fun x => soleB ops.toList (masks ops.toList []) x.1 && soleB ops.toList (masks ops.toList []) x.2) = true) (hk : keepB N ops.toList (keepOf E.keep (1000 + id)) (keepOf E.keep (2000 + id)) vs = true) (h : borK st st fun st1 => opsE (Impl P) E ops 0 ops.toList st1 [] (fun g Ls => regB draw N ops Ls.reverse = true ∧ oldK (keepOf E.keep (1000 + id)) st (keepOf E.keep (1000 + id)) fun O => newTK g O vs fun O => newK g O (keepOf E.keep (2000 + id)) (K .normal))) : WP P W0 N (.region id ops draw) st K := by
  classical
  generalize keepOf E.keep (1000 + id) = ko at hk h
  generalize keepOf E.keep (2000 + id) = kn at hk h
  constructor
  intro Q a w hsat hQ
  obtain ⟨hp, G, hr⟩ := hsat
  rw [borK_eq] at h
  have hb := bor_rel hr
  have hnp : NoPl (borS st st).get := by
    intro l s hs
    rw [borS_get] at hs
    split at hs
    · have : ∀ v : AV, (borV st v).pst = [] := by
        intro v
        unfold borV
        split
        · split <;> rfl
        · cases v with
          | agg l =>
            refine List.eq_nil_iff_forall_not_mem.2 fun x hx => ?_
            obtain ⟨e, he, hx⟩ := List.mem_flatMap.1 hx
            obtain ⟨e0, _, rfl⟩ := List.mem_map.1 he
            have := (bz1_flat e0).2.2.1
            cases e0 with
            | sl o nl sz dp l => cases dp <;> cases hx
            | _ => cases hx
          | sl o nl sz dp l => cases dp <;> rfl
          | _ => rfl
      rw [this] at hs; cases hs
    · cases hs
  refine region_wp hm hE hb hnp h fun g2 G2 a' w' hpost hr2 hkp => ?_
  rw [oldK_eq, newTK_eq, newK_eq] at hpost
  refine hQ _ _ _ _ hpost ?_
  unfold keepB at hk
  rw [Bool.and_eq_true, Bool.and_eq_true, Bool.and_eq_true, Bool.and_eq_true, List.all_eq_true, List.all_eq_true, List.all_eq_true] at hk
  obtain ⟨⟨⟨⟨hk1, hk2⟩, hk3⟩, hk4⟩, hk5⟩ := hk
  have hk3 := of_decide_eq_true hk3
  have hk4 := of_decide_eq_true hk4
  have hle : ∀ l, Le (st.get l) ((oldS ko st ko).get l) ∨ LeP st.get (oldS ko st ko).get l := fun l => by
    rw [oldS_get]
    split
    · rcases kpx_le ko st (st.get l) with h1 | ⟨r, s, nl, sz, dp, c, _, _, _, h4⟩
      · cases hv : kpx ko st (st.get l) with
        | pv r ix ss => rw [hv] at h1; exact .inl (Le.any _)
        | _ => rw [hv] at h1; exact .inl h1
      · rw [h4]; exact .inl (Le.any _)
    · exact .inl (Le.any _)
  have hpt : ∀ l n, n ∈ ((oldS ko st ko).get l).pbx → (oldS ko st ko).get (loc n 999) ≠ .any := fun l n e => by
    rw [oldS_get] at e
    split at e
    · have e' : n ∈ (kpx ko st (st.get l)).pbx := by
        cases hv : kpx ko st (st.get l) with
        | pv r ix ss => rw [hv] at e; cases e
        | _ => rw [hv] at e; exact e
      obtain ⟨h1, k, z, h2⟩ := kpx_pbx e'
      rw [oldS_get, if_pos h1, h2]
      exact fun h => (by cases h)
    · cases e
  obtain ⟨G0, hr0⟩ := hr.weak hle hpt
  generalize hO : oldS ko st ko = O at hpost hr0
  have hOp : ∀ l, (O.get l).pst = [] := fun l => by
    rw [← hO, oldS_get]; split
    · exact np_pst _ _ _
    · rfl
  have hOk : ∀ l, O.get l ≠ .any → l ∈ ko := fun l hl => by
    rw [← hO, oldS_get] at hl
    split at hl
    · assumption
    · exact absurd rfl hl
  have hdst : ∀ l, l ∈ ko → ∀ (j : Nat) (o : Oper), ops[j]? = some o → o.dst ≠ some l := fun l hl j o ho hd => by
    have h1 := hk1 l hl
    rw [Bool.and_eq_true, Bool.and_eq_true, Bool.not_eq_true', List.any_eq_false] at h1
    have := h1.1.1 o (by rw [← Array.getElem?_toList] at ho; exact List.mem_of_getElem? ho)
    rw [hd] at this
    simp at this
  have hstO : ∀ t, O.get t ≠ .any → a'.tmps.getD t undef = a.tmps.getD t undef := fun t ht => hkp.st t (hdst t (hOk t ht))
  have hknl : ∀ l, l ∈ kn → l < 1000 ∧ ∀ v ∈ vs, v.1 ≠ l ∧ v.2.1 ≠ l := fun l hl => by
    have h1 := hk2 l hl
    rw [Bool.and_eq_true, Nat.blt_eq, Bool.not_eq_true', List.any_eq_false] at h1
    refine ⟨h1.1, fun v hv => ?_⟩
    have := h1.2 v hv
    simp only [Bool.or_eq_true, beq_iff_eq, not_or] at this
    exact this
  -- the values out of tuples
  have hvia : ∀ v ∈ vs, v.1 < N ∧ v.2.1 < N ∧ ∃ xs, a'.tmps.getD v.2.1 undef = .tuple xs ∧ xs[v.2.2]? = some (a'.tmps.getD v.1 undef) := by
    intro v hv
    have hv1 : some v ∈ vs.map some := List.mem_map.2 ⟨v, hv, rfl⟩
    rw [← hpq] at hv1
    obtain ⟨x, hx, hvx⟩ := List.mem_map.1 hv1
    have hs := List.all_eq_true.1 hso x hx
    rw [Bool.and_eq_true] at hs
    have s1 := sole_of hs.1
    have s2 := sole_of hs.2
    unfold viaB at hvx
    split at hvx
    case h_2 => cases hvx
    rename_i o o' ho ho'
    rw [Array.getElem?_toList] at ho ho'
    split at hvx
    case h_2 => cases hvx
    rename_i s d t j s' op1 d1 g1 op2 d2 g2'
    split at hvx
    case isFalse => cases hvx
    rename_i hss
    subst hss
    cases hvx
    have hlt := (Array.getElem?_eq_some_iff.1 ho).1
    have hlt' := (Array.getElem?_eq_some_iff.1 ho').1
    have c1 := hkp.cp x.1 o (by simpa using hlt) ho g1 s1 d d1
    have c2 := hkp.cp x.2 o' (by simpa using hlt') ho' g2' s2 s d2
    unfold cpy at c1 c2
    rw [op1] at c1
    rw [op2] at c2
    dsimp only at c1 c2
    obtain ⟨xs, e1, e2⟩ := c2
    have htN : ∀ (y : Nat), a'.tmps.getD y undef ≠ undef → y < N := fun y hy => by
      rcases Nat.lt_or_ge y N with h | h
      · exact h
      · exfalso; apply hy
        rw [Array.getD_eq_getD_getElem?, Array.getElem?_eq_none (by rw [hr2.hs]; exact h)]; rfl
    refine ⟨by simpa using hk5 _ hv, ?_, xs, e1, by rw [e2, c1]⟩
    exact htN t (by
      rw [e1]
      intro h
      have h : xs = #[] := by unfold undef at h; injection h
      rw [h] at e2; simp at e2)
  have hT : ∀ t, ∃ tf : Nat → List Nat, ∀ l, g2.get t = .tup l → t < N → ∃ xs, a'.tmps.getD t undef = .tuple xs ∧ xs.size = l.length ∧ G2.tk t = (List.range l.length).flatMap tf ∧ ∀ j e y, l[j]? = some e → xs[j]? = some y → RW w' G2.F e y (tf j) := fun t => by
    by_cases ht : t < N
    · have hsl := hr2.sl t ht
      by_cases htu : ∃ l, g2.get t = .tup l
      · obtain ⟨l, hl⟩ := htu
        rw [hl] at hsl
        obtain ⟨xs, e1, e2, tf, e3, e4⟩ := hsl
        exact ⟨tf, fun l' hl' _ => by rw [hl] at hl'; cases hl'; exact ⟨xs, e1, e2, e3, e4⟩⟩
      · exact ⟨fun _ => [], fun l hl => absurd ⟨l, hl⟩ htu⟩
    · exact ⟨fun _ => [], fun l _ h => absurd h ht⟩
  obtain ⟨tf, htf⟩ := Classical.axiomOfChoice hT
  let nv : Nat → AV := fun l => if l ∈ kn then (g2.get l).cl else match vs.find? (fun v => v.1 == l) with
    | some v => compB g2 v.2.1 v.2.2
    | none => .any
  let nt : Nat → List Nat := fun l => if l ∈ kn then (if (g2.get l).cl.own1 = true then G2.tk l else []) else match vs.find? (fun v => v.1 == l) with
    | some v => if (compB g2 v.2.1 v.2.2).own1 = true then tf v.2.1 v.2.2 else []
    | none => []
  have hfind : ∀ l v, vs.find? (fun v => v.1 == l) = some v → v ∈ vs ∧ v.1 = l := fun l v h => ⟨List.mem_of_find?_eq_some h, by simpa using List.find?_some h⟩
  -- a component
  have hcomp : ∀ v ∈ vs, (compB g2 v.2.1 v.2.2 ≠ .any → ∃ l e, g2.get v.2.1 = .tup l ∧ l[v.2.2]? = some e ∧ compB g2 v.2.1 v.2.2 = e.cl ∧ RW w' G2.F e (a'.tmps.getD v.1 undef) (tf v.2.1 v.2.2) ∧ ∀ b ∈ tf v.2.1 v.2.2, b ∈ G2.tk v.2.1) := by
    intro v hv hne
    obtain ⟨v1, v2, xs, e1, e2⟩ := hvia v hv
    unfold compB at hne ⊢
    split at hne
    case h_2 => exact absurd rfl hne
    rename_i l hl
    obtain ⟨xs', f1, f2, f3, f4⟩ := htf v.2.1 l hl v2
    rw [e1] at f1
    cases f1
    have hj : v.2.2 < l.length := by have := (Array.getElem?_eq_some_iff.1 e2).1; omega
    refine ⟨l, l[v.2.2], hl, List.getElem?_eq_getElem hj, ?_, f4 _ _ _ (List.getElem?_eq_getElem hj) e2, fun b hb => by rw [f3]; exact mem_flat hj hb⟩
    rw [List.getD_eq_getElem?_getD, List.getElem?_eq_getElem hj]; rfl
  have hnt : ∀ l b, b ∈ nt l → (l ∈ kn ∧ b ∈ G2.tk l) ∨ (l ∉ kn ∧ ∃ v ∈ vs, v.1 = l ∧ b ∈ tf v.2.1 v.2.2 ∧ b ∈ G2.tk v.2.1 ∧ compB g2 v.2.1 v.2.2 ≠ .any) := by
    intro l b hb
    have hb : b ∈ (if l ∈ kn then (if (g2.get l).cl.own1 = true then G2.tk l else []) else match vs.find? (fun v => v.1 == l) with
      | some v => if (compB g2 v.2.1 v.2.2).own1 = true then tf v.2.1 v.2.2 else []
      | none => []) := hb
    by_cases hk : l ∈ kn
    · rw [if_pos hk] at hb
      split at hb
      · exact .inl ⟨hk, hb⟩
      · cases hb
    · rw [if_neg hk] at hb
      cases hf : vs.find? (fun v => v.1 == l) with
      | none => rw [hf] at hb; cases hb
      | some v =>
        rw [hf] at hb
        dsimp only at hb
        obtain ⟨hv, hvl⟩ := hfind l v hf
        split at hb
        · rename_i ho
          have hne : compB g2 v.2.1 v.2.2 ≠ .any := fun e => by rw [e] at ho; cases ho
          obtain ⟨_, _, _, _, _, _, h5⟩ := hcomp v hv hne
          exact .inr ⟨hk, v, hv, hvl, hb, h5 b hb, hne⟩
        · cases hb
  have htk2 : ∀ l b, b ∈ G2.tk l → w.heap.size ≤ b ∧ b < w'.heap.size := fun l b hb => ⟨(hr2.tk l b hb).1, (hr2.tk l b hb).2.1⟩
  refine bor_fin hr0 hr2 hOp hstO (fun l => l ∈ kn ∨ (vs.find? (fun v => v.1 == l)).isSome = true) nv nt ?_ ?_ ?_ ?_ ?_ ?_ ?_ ?_
  · intro l hl
    rcases hl with hl | hl
    · exact (hknl l hl).1
    · obtain ⟨v, hv⟩ := Option.isSome_iff_exists.1 hl
      obtain ⟨h1, h2⟩ := hfind l v hv
      have := (hvia v h1).1
      have := hr2.hN
      omega
  · intro l hl hlN G' g' hG'
    show RV G' g' a' w' (if l ∈ kn then (g2.get l).cl else _) _ (if l ∈ kn then _ else _)
    by_cases hk : l ∈ kn
    · rw [if_pos hk, if_pos hk]
      exact cl_rv (F := G0.F) (fun hv => cl_rp hv (hr2.sl l hlN)) G' g'
    · rw [if_neg hk, if_neg hk]
      cases hf : vs.find? (fun v => v.1 == l) with
      | none => exact rfl
      | some v =>
        obtain ⟨hv, hvl⟩ := hfind l v hf
        dsimp only
        by_cases hne : compB g2 v.2.1 v.2.2 = .any
        · rw [hne, if_neg (by decide)]; exact rfl
        · obtain ⟨lt, e, h1, h2, h3, h4, h5⟩ := hcomp v hv hne
          rw [h3] at hne ⊢
          rw [hvl] at h4
          exact cl_rv (F := G2.F) (fun hv => cl_rt hv h4) G' g'
  · intro l hl hlN
    show (if l ∈ kn then (g2.get l).cl else _) = _
    by_cases hk : l ∈ kn
    · rw [if_pos hk, hr2.sz l hlN (hknl l hk).1]; rfl
    · rw [if_neg hk]
      cases hf : vs.find? (fun v => v.1 == l) with
      | none => rfl
      | some v =>
        obtain ⟨hv, hvl⟩ := hfind l v hf
        have := (hvia v hv).1
        omega
  · intro l hl
    show (if l ∈ kn then (g2.get l).cl else _).pst = _
    by_cases hk : l ∈ kn
    · rw [if_pos hk]; exact cl_pst _
    · rw [if_neg hk]
      cases hf : vs.find? (fun v => v.1 == l) with
      | none => rfl
      | some v =>
        dsimp only
        unfold compB
        split
        · exact cl_pst _
        · rfl
  · intro l hl b hb
    rcases hnt l b hb with ⟨_, h1⟩ | ⟨_, v, _, _, _, h1, _⟩
    · exact htk2 l b h1
    · exact htk2 _ b h1
  · intro l hl
    show (if l ∈ kn then _ else _ : List Nat).Nodup
    by_cases hk : l ∈ kn
    · rw [if_pos hk]
      split
      · exact hr2.tn l
      · exact List.nodup_nil
    · rw [if_neg hk]
      cases hf : vs.find? (fun v => v.1 == l) with
      | none => exact List.nodup_nil
      | some v =>
        obtain ⟨hv, hvl⟩ := hfind l v hf
        dsimp only
        split
        · rename_i ho
          have hne : compB g2 v.2.1 v.2.2 ≠ .any := fun e => by rw [e] at ho; cases ho
          obtain ⟨lt, e, h1, h2, _⟩ := hcomp v hv hne
          obtain ⟨_, v2, _⟩ := hvia v hv
          obtain ⟨xs', f1, f2, f3, f4⟩ := htf v.2.1 lt h1 v2
          have hnd := hr2.tn v.2.1
          rw [f3] at hnd
          exact (of_nodup_flat hnd).1 _ (lt_of_get h2)
        · exact List.nodup_nil
  · intro l l' b hl hl' h1 h2
    rcases hnt l b h1 with ⟨k1, k2⟩ | ⟨k1, v, hv, hvl, k3, k4, k5⟩ <;> rcases hnt l' b h2 with ⟨q1, q2⟩ | ⟨q1, v', hv', hvl', q3, q4, q5⟩
    · exact hr2.td l l' b k2 q2
    · exact absurd (hr2.td _ _ b k2 q4).symm ((hknl l k1).2 v' hv').2
    · exact absurd (hr2.td _ _ b q2 k4).symm ((hknl l' q1).2 v hv).2
    · have ht := hr2.td _ _ b k4 q4
      obtain ⟨lt, e, h1, h2, _⟩ := hcomp v hv k5
      obtain ⟨lt', e', h1', h2', _⟩ := hcomp v' hv' q5
      obtain ⟨_, v2, _⟩ := hvia v hv
      obtain ⟨xs', f1, f2, f3, f4⟩ := htf v.2.1 lt h1 v2
      have hnd := hr2.tn v.2.1
      rw [f3] at hnd
      rw [← ht] at h1' q3
      rw [h1] at h1'
      cases h1'
      have hj := (of_nodup_flat hnd).2 _ _ b (lt_of_get h2) (lt_of_get h2') k3 q3
      have hvv : v.2 = v'.2 := Prod.ext ht hj
      have : v = v' := by
        obtain ⟨i, hi⟩ := List.mem_iff_getElem?.1 hv
        obtain ⟨i', hi'⟩ := List.mem_iff_getElem?.1 hv'
        have e1 : (vs.map (·.2))[i]? = some v.2 := by rw [List.getElem?_map, hi]; rfl
        have e2 : (vs.map (·.2))[i']? = some v'.2 := by rw [List.getElem?_map, hi']; rfl
        have : i = i' := (List.getElem?_inj (by have := lt_of_get hi; rw [List.length_map]; exact this) hk4).1 (by rw [e1, e2, hvv])
        subst this
        rw [hi] at hi'; cases hi'; rfl
      rw [← hvl, ← hvl', this]
  · intro l
    have hget : (newS g2 (newT g2 O vs) kn).get l = if l ∈ kn then (g2.get l).cl else (newT g2 O vs).get l := newS_get g2 _ l kn
    rw [hget, newT_get]
    refine ⟨fun hd => ?_, fun hd => ?_⟩
    · show _ = (if l ∈ kn then (g2.get l).cl else _)
      by_cases hk : l ∈ kn
      · rw [if_pos hk, if_pos hk]
      · rw [if_neg hk, if_neg hk]
        rcases hd with hd | hd
        · exact absurd hd hk
        · obtain ⟨v, hv⟩ := Option.isSome_iff_exists.1 hd
          rw [hv]
    · rw [not_or] at hd
      rw [if_neg hd.1]
      cases hf : vs.find? (fun v => v.1 == l) with
      | none => rfl
      | some v => rw [hf] at hd; exact absurd rfl hd.2
end
end Go.Proofs.Ytcngjnhdemjomaa.T
namespace Go.Proofs.Ytcngjnhdemjomaa.T
set_option linter.unusedSimpArgs false
set_option linter.unusedVariables false
open Go
set_option linter.unusedVariables false
set_option maxHeartbeats 4000000
set_option maxRecDepth 100000
def eOneN : Env := ⟨tbl, [], [61, 66], [70], [(0, [2, 3, 4, 5, 6, 6999, 6000, 6001, 6002, 6003, 6004, 7999, 7000, 7001, 7002, 7003, 7004, 7005, 7006, 7007, 7008, 7009, 7010, 7011, 7012, 7013, 7014, 7015, 7016, 7017, 7018, 7019]), (1, [2, 3, 4, 5, 6, 13, 6999, 6000, 6001, 6002, 6003, 6004, 7999, 7000, 7001, 7002, 7003, 7004, 7005, 7006, 7007, 7008, 7009, 7010, 7011, 7012, 7013, 7014, 7015, 7016, 7017, 7018, 7019]), (2, [2, 3, 4, 5, 6, 13, 15, 6999, 6000, 6001, 6002, 6003, 6004, 7999, 7000, 7001, 7002, 7003, 7004, 7005, 7006, 7007, 7008, 7009, 7010, 7011, 7012, 7013, 7014, 7015, 7016, 7017, 7018, 7019]), (3, [2, 3, 4, 5, 6, 13, 15, 17, 6999, 6000, 6001, 6002, 6003, 6004, 7999, 7000, 7001, 7002, 7003, 7004, 7005, 7006, 7007, 7008, 7009, 7010, 7011, 7012, 7013, 7014, 7015, 7016, 7017, 7018, 7019]), (4, [2, 3, 4, 5, 6, 15, 17, 19, 6999, 6000, 6001, 6002, 6003, 6004, 7999, 7000, 7001, 7002, 7003, 7004, 7005, 7006, 7007, 7008, 7009, 7010, 7011, 7012, 7013, 7014, 7015, 7016, 7017, 7018, 7019]), (5, [2, 6, 15, 17, 21, 7999, 7000, 7001, 7002, 7003, 7004, 7005, 7006, 7007, 7008, 7009, 7010, 7011, 7012, 7013, 7014, 7015, 7016, 7017, 7018, 7019]), (6, [2, 6, 15, 17, 23, 7999, 7000, 7001, 7002, 7003, 7004, 7005, 7006, 7007, 7008, 7009, 7010, 7011, 7012, 7013, 7014, 7015, 7016, 7017, 7018, 7019]), (7, [6, 15, 17, 25, 7999, 7000, 7001, 7002, 7003, 7004, 7005, 7006, 7007, 7008, 7009, 7010, 7011, 7012, 7013, 7014, 7015, 7016, 7017, 7018, 7019]), (8, [10, 11, 12]), (1005, [2, 6, 15, 17, 7000, 7001, 7002, 7003, 7004, 7005, 7006, 7007, 7008, 7009, 7010, 7011, 7012, 7013, 7014, 7015, 7016, 7017, 7018, 7019, 7999]), (2005, [])]⟩
theorem one_okN {nx nk nv : Option Bool} {c : Cfg} {D H n s : Nat} {b : Blk} {x : List Int} {keys vals : List (List Int)} (hc : c.heads = n) (hn : 1 ≤ n ∧ n ≤ 4) (hns : n * s = D) (hD : 0 < D ∧ D ≤ 32) (hH : 0 < H ∧ H ≤ 128) (hb : BlkG D H b) (hx : x.length = D) (hw : I32s x) (hk : RowsN D keys) (hv : RowsN D vals) (hl : keys.length = vals.length ∧ keys.length ≤ 127) : Impl Try.prog 28 [cfgA c, blkA none b, .sl none nx 1 false (ints .i32 x), .sl none nk 1 true (gl (rowA none) keys), .sl none nv 1 true (gl (rowA none) vals)] (.tup [rowA (some 0) (sOne D H s b x keys vals).x, rowA (some 0) (sOne D H s b x keys vals).k, rowA (some 0) (sOne D H s b x keys vals).v]) := by
  obtain ⟨s1, s2⟩ := hb.first
  have l1 := sNorm_len x b.first
  have i1 := sNorm_i32 x b.first
  have lq := sApply_len D D b.q.d (sNorm x b.first)
  have lk := sApply_len D D b.k.d (sNorm x b.first)
  have lv := sApply_len D D b.v.d (sNorm x b.first)
  have iq := sApply_i32 D D b.q.d (sNorm x b.first)
  have ik := sApply_i32 D D b.k.d (sNorm x b.first)
  have iv := sApply_i32 D D b.v.d (sNorm x b.first)
  have hat : ∀ {n1 n2 n3 : Option Bool}, Impl Try.prog 56 [.sl none n1 1 false (ints .i32 (sApply D D b.q.d (sNorm x b.first))), .sl none n2 1 true (gl (rowA none) (keys ++ [sApply D D b.k.d (sNorm x b.first)])), .sl none n3 1 true (gl (rowA none) (vals ++ [sApply D D b.v.d (sNorm x b.first)])), .i .i64 c.heads] (.tup [rowA (some 0) (sAttend (sApply D D b.q.d (sNorm x b.first)) (keys ++ [sApply D D b.k.d (sNorm x b.first)]) (vals ++ [sApply D D b.v.d (sNorm x b.first)]) s), .i .i64 0]) := fun {n1 n2 n3} => by
    rw [hc]
    exact attend_ok hn (by omega) (by simp; omega) (by omega) (by simp; omega) iq (by rw [lq]; exact rowsN_snoc hk ⟨lk, ik⟩) (by rw [lq]; exact rowsN_snoc hv ⟨lv, iv⟩)
  have la := sAttend_len (sApply D D b.q.d (sNorm x b.first)) (keys ++ [sApply D D b.k.d (sNorm x b.first)]) (vals ++ [sApply D D b.v.d (sNorm x b.first)]) s
  have ia := sAttend_i32 (sApply D D b.q.d (sNorm x b.first)) (keys ++ [sApply D D b.k.d (sNorm x b.first)]) (vals ++ [sApply D D b.v.d (sNorm x b.first)]) s
  have e : sOne D H s b x keys vals = ⟨sHalf D H b (sPlus x (sApply D D b.o.d (sAttend (sApply D D b.q.d (sNorm x b.first)) (keys ++ [sApply D D b.k.d (sNorm x b.first)]) (vals ++ [sApply D D b.v.d (sNorm x b.first)]) s))), sApply D D b.k.d (sNorm x b.first), sApply D D b.v.d (sNorm x b.first)⟩ := rfl
  rw [e]
  generalize sAttend (sApply D D b.q.d (sNorm x b.first)) (keys ++ [sApply D D b.k.d (sNorm x b.first)]) (vals ++ [sApply D D b.v.d (sNorm x b.first)]) s = A at *
  have lo := sApply_len D D b.o.d A
  have ls := sPlus_len x (sApply D D b.o.d A)
  refine impl_of (fn := Try.f28) tbl_ok (by kernel_rfl) (by kernel_rfl) rfl ⟨by simp [Try.f28], by decide⟩ rfl fun W0 => ?_
  repeat' first
    | (refine WP.regionB (E := eOneN) (id := 5) [(17, 15)] [(21, 55, 0)] mixed tbl_ok ?_ ?_ ?_ ?_; (· kernel_rfl); (· kernel_rfl); (· kernel_rfl); conv => whnf)
    | apply WP.seq
    | (apply WP.region (E := eOneN) mixed tbl_ok; conv => whnf)
    | (apply WP.ret; conv => whnf)
    | (rw [List.nil_append]; conv => whnf)
    | (rw [gl_snocR]; conv => whnf)
    | (rw [fz_rows]; conv => whnf)
    | (apply reg_and; (· kernel_rfl); conv => whnf)
    | (apply ex_and; (· with_reducible exact norm_ok (by omega) (by omega) (by omega) hw s2); conv => whnf)
    | (apply ex_and; (· with_reducible exact apply_okM hb.k (by omega) i1); conv => whnf)
    | (apply ex_and; (· with_reducible exact apply_okM hb.v (by omega) i1); conv => whnf)
    | (apply ex_and; (· with_reducible exact apply_okM hb.q (by omega) i1); conv => whnf)
    | (apply ex_and; (· with_reducible exact hat); conv => whnf)
    | (apply ex_and; (· with_reducible exact apply_okM hb.o (by omega) ia); conv => whnf)
    | (apply ex_and; (· with_reducible exact addv_ok (by omega) (by omega) hw (sApply_i32 _ _ _ _)); conv => whnf)
    | (apply ex_and; (· with_reducible exact half_ok (by omega) (by omega) hb (by omega) (sPlus_i32 _ _)); conv => whnf)
    | (apply nodup_and; (· exact of_decide_eq_true (by kernel_rfl)); conv => whnf)
    | (apply And.intro; (· first | with_reducible rfl | exact trivial | exact Or.inl ⟨rfl, rfl⟩ | exact Or.inr rfl | decide | omega | (apply Nat.le_of_ble_eq_true; rfl) | (dsimp only; omega) | (simp only [ints_len, gl_len, mp_len, List.length_cons, List.length_nil, List.length_drop, List.length_take]; omega)); conv => whnf)
    | fail
  repeat' first
    | apply True.intro
    | (apply Or.inr; rfl)
    | (apply or_row; (· rfl); (· rfl); rfl)
    | (apply And.intro <;> conv => whnf)
    | (apply Nat.le_of_ble_eq_true; rfl)
    | fail
end Go.Proofs.Ytcngjnhdemjomaa.T
namespace Go.Proofs.Ytcngjnhdemjomaa.T
set_option linter.unusedSimpArgs false
set_option linter.unusedVariables false
open Go Go.RowKit
set_option linter.unusedVariables false
set_option linter.unusedSimpArgs false
inductive NLe : AV → AV → Prop
  | refl (v : AV) : NLe v v
  | sl {s s' : Nat} {nl nl' : Option Bool} {sz : Nat} {dp : Bool} {l l' : List AV} (hn : nl' = none ∨ nl' = nl) (hl : l'.length = l.length) (h : ∀ (j : Nat) (e e' : AV), l[j]? = some e → l'[j]? = some e' → NLe e e') : NLe (.sl (some s) nl sz dp l) (.sl (some s') nl' sz dp l')
theorem NLe.scal {v v' : AV} (h : NLe v v') (hs : v.scal = true) : v' = v := by
  cases h with
  | refl => rfl
  | sl => cases hs
theorem NLe.na {v v' : AV} (h : NLe v v') (hv : ∀ l, v ≠ .agg l) : ∀ l, v' ≠ .agg l := by
  cases h with
  | refl => exact hv
  | sl => intro l e; cases e
theorem NLe.rp {w : World} {F : Nat → Prop} {v : AV} {cs : List Value} {ts : List Nat} (h : Rp w F v cs ts) : ∀ {v' : AV}, NLe v v' → Rp w F v' cs ts := by
  induction h with
  | @own b cap arr ty nl sz st dp l cs ts hn hh hc hm hs hl hr hw hd ih =>
    intro v' hv
    cases hv with
    | refl => exact .own hn hh hc hm hs hl hr hw hd
    | @sl _ s' _ nl' _ _ _ l' h1 h2 h3 =>
      have hget : ∀ j, j < l.length → ∃ e e', l[j]? = some e ∧ l'[j]? = some e' ∧ NLe e e' := fun j hj => ⟨l[j], l'[j], List.getElem?_eq_getElem hj, List.getElem?_eq_getElem (by omega), h3 j _ _ (List.getElem?_eq_getElem hj) (List.getElem?_eq_getElem (by omega))⟩
      have hn' : nl' ≠ some true := by rcases h1 with h1 | h1 <;> rw [h1] <;> first | exact hn | decide
      have := Rp.own (w := w) (F := F) (st := s') (nil := nl') (sz := sz) (dp := dp) (l := l') (cs := cs) (ts := ts) hn' hh (by omega) hm hs (fun j hj => hl j (by omega)) (fun j e' he' => by
        obtain ⟨e, e2, q1, q2, q3⟩ := hget j (by have := lt_of_get he'; omega)
        rw [he'] at q2; cases q2
        exact ih j e q1 q3) (fun j q u hj hu => hw j q u (by omega) hu) (fun hdp e' he' => by
        obtain ⟨j, hj⟩ := List.mem_iff_getElem?.1 he'
        obtain ⟨e, e2, q1, q2, q3⟩ := hget j (by have := lt_of_get hj; omega)
        rw [hj] at q2; cases q2
        have hs := hd hdp e (List.mem_of_getElem? q1)
        rw [q3.scal hs]; exact hs)
      rw [h2] at this
      exact this
  | own0 hn =>
    intro v' hv
    cases hv with
    | refl => exact .own0 hn
    | @sl _ s' _ nl' _ _ _ l' h1 h2 h3 =>
      have : l' = [] := List.eq_nil_of_length_eq_zero h2
      subst this
      exact .own0 (by rcases h1 with h1 | h1 <;> rw [h1] <;> first | exact hn | decide)
  | own1 hn =>
    intro v' hv
    cases hv with
    | refl => exact .own1 hn
    | @sl _ s' _ nl' _ _ _ l' h1 h2 h3 =>
      have : l' = [] := List.eq_nil_of_length_eq_zero h2
      subst this
      exact .own1 (by rcases h1 with h1 | h1 <;> rw [h1] <;> first | exact hn | decide)
  | any h => intro v' hv; cases hv; exact .any h
  | b x => intro v' hv; cases hv; exact .b x
  | i k n => intro v' hv; cases hv; exact .i k n
  | s x => intro v' hv; cases hv; exact .s x
  | fz hc hm hn h0 hA hl hr hd hw ih => intro v' hv; cases hv; exact .fz hc hm hn h0 hA hl hr hd hw
  | agg hl hg hr ih => intro v' hv; cases hv; exact .agg hl hg hr
  | fa hf hg hr hw => intro v' hv; cases hv; exact .fa hf hg hr hw
theorem NLe.le {v v' : AV} (h : NLe v v') (hs : ∃ s nl sz dp l, v = .sl (some s) nl sz dp l) : Le v v' := by
  obtain ⟨s, nl, sz, dp, l, rfl⟩ := hs
  have hv : ∃ s' nl' l', v' = .sl (some s') nl' sz dp l' := by
    cases h with
    | refl => exact ⟨_, _, _, rfl⟩
    | sl => exact ⟨_, _, _, rfl⟩
  obtain ⟨s', nl', l', rfl⟩ := hv
  exact ⟨rfl, fun {G g a w x ts} hr => ⟨ts, List.Sublist.refl _, NLe.rp (show Rp w G.F _ [x] ts from hr) h⟩, fun {w F y ts} hr => ⟨ts, List.Sublist.refl _, NLe.rp hr.rp h, fun l e => by cases e⟩, fun n hn => (by cases hn), fun e => (by cases e), fun k n e => (by cases e)⟩
theorem Le.refl' (v : AV) (hv : v.pst = []) : Le v v := ⟨hv, fun {G g a w x ts} h => ⟨ts, List.Sublist.refl _, h⟩, fun {w F y ts} h => ⟨ts, List.Sublist.refl _, h⟩, fun n h => h, fun h => h, fun k n h => h⟩
def pvOk1 (st : St) (v : AV) : Bool := match v with
  | .pv r [] [0] => Nat.blt r 1000 && (match st.get r with
    | .sl (some 0) _ _ _ _ => true
    | _ => false)
  | v => v.pst.isEmpty
def pvOkB (st : St) : St → Bool
  | [] => true
  | (_, v) :: r => pvOk1 st v && pvOkB st r
theorem pvOkB_get {st : St} : ∀ {r : St}, pvOkB st r = true → ∀ k, pvOk1 st (r.get k) = true
  | [], _, k => rfl
  | (l, v) :: r, h, k => by
    unfold pvOkB at h
    rw [Bool.and_eq_true] at h
    have e0 : St.get ((l, v) :: r) k = if l = k then v else St.get r k := rfl
    rw [e0]
    split
    · exact h.1
    · exact pvOkB_get h.2 k
theorem ptrN_get {st : St} : ∀ {r : St}, ptrB st r = true → ∀ k n, n ∈ (r.get k).pbx → st.get (loc n 999) ≠ .any
  | [], _, k, n, h => by cases h
  | (l, v) :: r, h, k, n, hn => by
    unfold ptrB at h
    rw [Bool.and_eq_true] at h
    have e0 : St.get ((l, v) :: r) k = if l = k then v else St.get r k := rfl
    rw [e0] at hn
    split at hn
    · have := List.all_eq_true.1 h.1 n hn
      unfold ptrB1 at this
      intro e
      rw [e] at this
      cases this
    · exact ptrN_get h.2 k n hn
/-- Of a place less is told. -/
theorem WP.nrm {P : Program} {W0 : Bs} {N : Nat} {c : Code} {st : St} {K : Exit → St → Prop} (l : Nat) (v' : AV) (h : st.getK l fun v => (NLe v v' ∧ (match v, v' with
  | .sl (some 0) _ _ _ _, .sl (some 0) _ _ _ _ => True
  | _, _ => False)) ∧ st.setK l v' fun st' => pvOkB st st = true ∧ ptrB st' st' = true ∧ WP P W0 N c st' K) : WP P W0 N c st K := by
  rw [St.getK_eq] at h
  obtain ⟨⟨h1, h2⟩, h3⟩ := h
  rw [St.setK_eq] at h3
  obtain ⟨h4, h5, h6⟩ := h3
  have hs : (∃ nl sz dp q, st.get l = .sl (some 0) nl sz dp q) ∧ ∃ nl sz dp q, v' = .sl (some 0) nl sz dp q := by
    split at h2
    · rename_i hv; exact ⟨⟨_, _, _, _, hv⟩, _, _, _, _, rfl⟩
    · exact h2.elim
  obtain ⟨⟨nl0, sz0, dp0, q0, hs1⟩, nl1, sz1, dp1, q1, hs2⟩ := hs
  have hle := h1.le ⟨_, _, _, _, _, hs1⟩
  constructor
  intro Q a w hsat hQ
  refine h6.run Q a w ?_ hQ
  obtain ⟨hp, G, hr⟩ := hsat
  have hget : ∀ k, (st.set l v').get k = if k = l then v' else st.get k := fun k => St.get_set st l v' k
  refine ⟨fun k s hk => ?_, ?_⟩
  · rw [hget] at hk
    split at hk
    · rw [hle.pl] at hk; cases hk
    · exact hp k s hk
  · refine hr.weak (g' := (st.set l v').get) (fun k => ?_) (fun k n hk => ptrN_get h5 k n hk)
    rw [hget]
    split
    · rename_i e; subst e; exact .inl hle
    · rename_i hkl
      have hok := pvOkB_get h4 k
      unfold pvOk1 at hok
      split at hok
      · rename_i r hv
        rw [Bool.and_eq_true, Nat.blt_eq] at hok
        refine .inr ⟨r, 0, ?_⟩
        have hr2 := hok.2
        split at hr2
        · rename_i nl sz dp c hc
          exact ⟨nl, sz, dp, c, hok.1, hv, hc, by rw [hget, if_neg hkl, hv]⟩
        · cases hr2
      · exact .inl (Le.refl' _ (by simpa using hok))
/-- One of many lists was put anew. -/
theorem nle_set {α : Type} {f : α → AV} {K : List α} {i : Nat} {r : α} {s s2 : Nat} {nl nl2 : Option Bool} {sz sz2 : Nat} {dp2 : Bool} {L : List AV} {l0 : List AV} (hl0 : ∀ j, j ≠ i → l0[j]? = (gl f K)[j]?) (hlen : l0.length = K.length) (hi : l0[i]? = some (.sl (some s2) nl2 sz2 dp2 L)) (hf : f r = .sl (some 0) none sz2 dp2 L) : NLe (.sl (some s) nl sz true l0) (.sl (some 0) none sz true (gl f (K.set i r))) := by
  refine .sl (.inl rfl) (by rw [gl_len, List.length_set, hlen]) fun j e e' h1 h2 => ?_
  unfold gl at h2
  rw [List.getElem?_map, List.getElem?_set] at h2
  by_cases hj : i = j
  · subst hj
    rw [hi] at h1
    cases h1
    rw [if_pos rfl] at h2
    have hik : i < K.length := by rw [← hlen]; exact lt_of_get hi
    rw [if_pos hik] at h2
    cases h2
    rw [hf]
    exact .sl (.inl rfl) rfl fun j e e' h1 h2 => by rw [h1] at h2; cases h2; exact .refl _
  · rw [if_neg hj] at h2
    rw [hl0 j (fun e => hj e.symm)] at h1
    unfold gl at h1
    rw [List.getElem?_map] at h1
    rw [h1] at h2
    cases h2
    exact .refl _
end Go.Proofs.Ytcngjnhdemjomaa.T
namespace Go.Proofs.Ytcngjnhdemjomaa.T
set_option linter.unusedSimpArgs false
set_option linter.unusedVariables false
open Go
set_option linter.unusedVariables false
set_option maxHeartbeats 8000000
set_option maxRecDepth 100000
/-- Rows in lists that somebody holds. -/
abbrev rowsO (r : List (List Int)) : AV := .sl (some 0) none 1 true (gl (rowA none) r)
abbrev rows3O (l : List (List (List Int))) : AV := .sl (some 0) none 1 true (gl rowsO l)
theorem fz_rowsO (l : List (List (List Int))) : AV.fzL (gl rowsO l) = gl (rowsA none) l := by
  rw [AV.fzL_map]; unfold gl; rw [List.map_map]
  refine List.map_congr_left fun r _ => ?_
  show AV.sl none none 1 true (AV.fzL (gl (rowA none) r)) = _
  rw [fz_rows]
theorem nd_set {α : Type} {f : α → AV} {K : List α} {n : Int} {m : Nat} {v : AV} {A : Prop} (h : 0 ≤ n ∧ n < (K.length : Int)) (hA : A) : (0 ≤ n ∧ n < (((gl f K).set m v).length : Int)) ∧ A := by rw [List.length_set, gl_len]; exact ⟨h, hA⟩
theorem mp_at {α : Type} {n : Nat} {F : Nat → α} {j : Nat} (h : j < (mp n F).length) : (mp n F)[j] = F j := (List.getElem_map F).trans (by rw [List.getElem_range])
theorem nle_rep {m n : Nat} {nl : Option Bool} (h : m = n) : NLe (.sl (some 0) nl 1 true (List.replicate m (.sl (some 0) (some true) 1 true []))) (rows3O (mp n fun _ => [])) := by
  subst h
  refine .sl (.inl rfl) (by rw [gl_len, mp_len, List.length_replicate]) fun j e e' h1 h2 => ?_
  have hj : j < m := by have := lt_of_get h1; rwa [List.length_replicate] at this
  rw [List.getElem?_replicate, if_pos hj] at h1
  cases h1
  unfold gl mp at h2
  rw [List.getElem?_map, List.getElem?_map, List.getElem?_range hj] at h2
  cases h2
  exact .sl (.inl rfl) rfl fun j e e' h => by cases h
theorem nle_put {K : List (List (List Int))} {n : Nat} {s2 : Nat} {nl nl2 : Option Bool} {r : List (List Int)} (hn : n < K.length) : NLe (.sl (some 0) nl 1 true (((gl rowsO K).set n .any).set n (.sl (some s2) nl2 1 true (gl (rowA none) r)))) (rows3O (K.set n r)) := by
  refine nle_set (f := rowsO) (s2 := s2) (nl2 := nl2) (fun j hj => ?_) (by rw [List.length_set, List.length_set, gl_len]) ?_ rfl
  · rw [List.getElem?_set_ne (fun e => hj e.symm), List.getElem?_set_ne (fun e => hj e.symm)]
  · rw [List.getElem?_set_self (by rw [List.length_set, gl_len]; exact hn)]
def ePassOne : Env := ⟨tbl, [68], [113, 123], [101, 102, 103], [(0, [1, 2, 3, 4999, 4000, 4001, 4002, 4003, 4004]), (1, [1, 2, 3, 4999, 4000, 4001, 4002, 4003, 4004]), (2, [2, 3, 7, 8, 4999, 4000, 4001, 4002, 4003, 4004, 8999, 8000, 8001, 8002, 8003, 8004, 8005, 8006, 8007]), (3, [2, 3, 7, 41, 4999, 4000, 4001, 4002, 4003, 4004, 8999, 8000, 8001, 8002, 8003, 8004, 8005, 8006, 8007]), (4, [6]), (5, [2, 3, 7, 9, 10, 11, 4999, 4000, 4001, 4002, 4003, 4004, 8999, 8000, 8001, 8002, 8003, 8004, 8005, 8006, 8007, 11999, 11000, 11001]), (6, [2, 3, 7, 9, 10, 60, 4999, 4000, 4001, 4002, 4003, 4004, 8999, 8000, 8001, 8002, 8003, 8004, 8005, 8006, 8007, 11999, 11000, 11001]), (7, [6]), (8, [2, 3, 7, 9, 10, 12, 13, 4999, 4000, 4001, 4002, 4003, 4004, 8999, 8000, 8001, 8002, 8003, 8004, 8005, 8006, 8007, 11999, 11000, 11001]), (9, [2, 3, 7, 9, 10, 12, 13, 14, 4999, 4000, 4001, 4002, 4003, 4004, 8999, 8000, 8001, 8002, 8003, 8004, 8005, 8006, 8007, 11999, 11000, 11001]), (10, [3, 7, 9, 10, 12, 13, 14, 68, 69, 70, 4999, 4000, 4001, 4002, 4003, 4004, 8999, 8000, 8001, 8002, 8003, 8004, 8005, 8006, 8007, 11999, 11000, 11001]), (11, [3, 7, 9, 10, 12, 13, 14, 68, 69, 70, 71, 4999, 4000, 4001, 4002, 4003, 4004, 8999, 8000, 8001, 8002, 8003, 8004, 8005, 8006, 8007, 11999, 11000, 11001]), (12, [3, 7, 9, 10, 12, 13, 15, 16, 68, 69, 70, 4999, 4000, 4001, 4002, 4003, 4004, 8999, 8000, 8001, 8002, 8003, 8004, 8005, 8006, 8007, 11999, 11000, 11001]), (13, [3, 7, 9, 10, 12, 13, 14, 68, 69, 70, 4999, 4000, 4001, 4002, 4003, 4004, 8999, 8000, 8001, 8002, 8003, 8004, 8005, 8006, 8007, 11999, 11000, 11001]), (14, [3, 7, 9, 10, 12, 13, 14, 68, 69, 70, 80, 81, 4999, 4000, 4001, 4002, 4003, 4004, 8999, 8000, 8001, 8002, 8003, 8004, 8005, 8006, 8007, 11999, 11000, 11001]), (15, [3, 7, 9, 10, 12, 13, 14, 68, 69, 70, 80, 81, 82, 4999, 4000, 4001, 4002, 4003, 4004, 8999, 8000, 8001, 8002, 8003, 8004, 8005, 8006, 8007, 11999, 11000, 11001]), (16, [3, 7, 9, 10, 12, 13, 14, 17, 68, 69, 70, 80, 81, 4999, 4000, 4001, 4002, 4003, 4004, 8999, 8000, 8001, 8002, 8003, 8004, 8005, 8006, 8007, 11999, 11000, 11001]), (17, [3, 7, 9, 10, 12, 13, 17, 18, 19, 20, 68, 69, 70, 80, 81, 4999, 4000, 4001, 4002, 4003, 4004, 8999, 8000, 8001, 8002, 8003, 8004, 8005, 8006, 8007, 11999, 11000, 11001]), (18, [3, 7, 9, 10, 12, 13, 14, 17, 19, 20, 68, 69, 70, 80, 81, 4999, 4000, 4001, 4002, 4003, 4004, 8999, 8000, 8001, 8002, 8003, 8004, 8005, 8006, 8007, 11999, 11000, 11001]), (19, [3, 7, 9, 10, 12, 13, 14, 17, 20, 68, 69, 70, 80, 81, 4999, 4000, 4001, 4002, 4003, 4004, 8999, 8000, 8001, 8002, 8003, 8004, 8005, 8006, 8007, 11999, 11000, 11001]), (20, [3, 7, 9, 10, 12, 13, 14, 68, 69, 70, 80, 81, 4999, 4000, 4001, 4002, 4003, 4004, 8999, 8000, 8001, 8002, 8003, 8004, 8005, 8006, 8007, 11999, 11000, 11001]), (21, [3, 7, 9, 10, 12, 13, 14, 68, 69, 70, 80, 81, 4999, 4000, 4001, 4002, 4003, 4004, 8999, 8000, 8001, 8002, 8003, 8004, 8005, 8006, 8007, 11999, 11000, 11001]), (22, [3, 7, 9, 10, 12, 13, 14, 68, 69, 70, 4999, 4000, 4001, 4002, 4003, 4004, 8999, 8000, 8001, 8002, 8003, 8004, 8005, 8006, 8007, 11999, 11000, 11001]), (23, [6]), (1017, [3, 7, 9, 10, 12, 13, 17, 68, 69, 70, 80, 81, 4000, 4001, 4002, 4003, 4004, 4999, 8000, 8001, 8002, 8003, 8004, 8005, 8006, 8007, 8999, 11000, 11001, 11999]), (2017, [])]⟩
theorem passone_law (c : Cfg) (seed : Int) (t : List Int) (hseed : IntKind.u64.min ≤ seed ∧ seed ≤ IntKind.u64.max) (ht : IntsW t) : Impl Try.prog 7 [cfgA c, .i .u64 seed, .sl none none 1 false (ints .i64 t)] (.b true) := by
  have hF : ∀ {no : Option Bool}, Impl Try.prog 16 [.sl none no 1 false (ints .i64 t), .i .i64 8] (.sl (some 0) none 1 false (ints .i64 (t.take 8))) := fun {no} => few8_ok 8 ht.1 (by omega)
  have htl : (t.take 8).length ≤ 8 := by rw [List.length_take]; omega
  generalize t.take 8 = t1 at *
  obtain ⟨sc, hsm, h0⟩ : ∃ (sc : Int), Impl Try.prog 15 [cfgA c] (.i .i64 sc) ∧ (sc = 0 ∨ sc = 1) := by
    have := small_ok c
    by_cases h : small c
    · rw [if_pos h] at this; exact ⟨1, this, .inr rfl⟩
    · rw [if_neg h] at this; exact ⟨0, this, .inl rfl⟩
  have hP : ∀ {nt : Option Bool}, Impl Try.prog 26 [cfgA c, .sl none nt 1 false (ints .i64 t1)] (.i .i64 (prm c.vocab t1)) := fun {nt} => prompt_ok c (by omega)
  by_cases hsh : shp c = 0
  · obtain ⟨V, D, nh, H, L, s, hc⟩ := shp_good hsh
    have hM := make_goodC hc hseed
    have hg : WtsG V D H L (sMake seed V D H L) := make_good (by have := hc.gv; omega) hc.gd.2 hc.gh.2
    generalize sMake seed V D H L = w at *
    by_cases hok : sc ≠ 0 ∧ prm c.vocab t1 = 0
    · obtain ⟨k1, k2⟩ := hok
      have p3 := prm_zero k2
      have hA := fun {nt : Option Bool} => full_good (nt := nt) hc hg k2
      have hlay := hg.layers
      have hks := keys_small (D := D) (H := H) (s := s) (w := w) (t := t1) (by have := hc.gl; omega) (by omega) (by have := hc.gd; omega)
      have hvs := vals_small (D := D) (H := H) (s := s) (w := w) (t := t1) (by have := hc.gl; omega) (by omega) (by have := hc.gd; omega)
      have hcl := hc.gl
      have ek : sKeys D H s w t1 = mp L fun l => mp t1.length (kF D H s w (fB D w t1) l) := by unfold sKeys; rw [hlay]
      have ev : sVals D H s w t1 = mp L fun l => mp t1.length (vF D H s w (fB D w t1) l) := by unfold sVals; rw [hlay]
      have ef : sFull V D H s w t1 = sLikes V D w (X D H s w (fB D w t1) L (t1.length - 1)) := by unfold sFull; rw [hlay]
      rw [ek] at hA hks
      rw [ev] at hA hvs
      rw [ef] at hA
      refine impl_of (fn := Try.f7) tbl_ok (by kernel_rfl) (by kernel_rfl) rfl ⟨by simp [Try.f7], by decide⟩ rfl fun W0 => ?_
      repeat' first
        | (refine WP.nrm (c := .region 9 _ _) 12 (rows3O (mp L fun _ => [])) ?_; (conv => whnf); refine And.intro (And.intro (by exact nle_rep (by omega)) True.intro) ?_; (conv => whnf); refine And.intro (by kernel_rfl) (And.intro (by kernel_rfl) ?_))
        | (refine WP.nrm (c := .region 9 _ _) 13 (rows3O (mp L fun _ => [])) ?_; (conv => whnf); refine And.intro (And.intro (by exact nle_rep (by omega)) True.intro) ?_; (conv => whnf); refine And.intro (by kernel_rfl) (And.intro (by kernel_rfl) ?_))
        | apply WP.seq
        | (apply WP.region (E := ePassOne) mixed tbl_ok; conv => whnf)
        | (apply WP.cond; conv => whnf)
        | (apply WP.skip; conv => whnf)
        | apply WP.block
        | (rw [fz_blks]; conv => whnf)
        | (apply reg_and; (· kernel_rfl); conv => whnf)
        | (apply ex_and; (· with_reducible exact hF); conv => whnf)
        | (apply ex_and; (· with_reducible exact hM); conv => whnf)
        | (apply ex_and; (· with_reducible exact hsm); conv => whnf)
        | (apply ex_and; (· with_reducible exact hP); conv => whnf)
        | (apply ex_and; (· with_reducible exact hA); conv => whnf)
        | (apply ex_ilen; conv => whnf)
        | (apply ex_glen; conv => whnf)
        | (apply ex_eq; conv => whnf)
        | (apply gd_br)
        | (apply And.intro; (· first | with_reducible rfl | exact trivial | exact Or.inl ⟨rfl, rfl⟩ | exact Or.inr rfl | decide | omega | (apply Nat.le_of_ble_eq_true; rfl) | (dsimp only; omega) | (simp only [ints_len, gl_len, mp_len, List.length_cons, List.length_nil, List.length_drop, List.length_take]; omega)); conv => whnf)
        | apply br_not
        | (apply br_t; conv => whnf)
        | (apply br_yes; (· omega); conv => whnf)
        | (apply br_no; (· omega); conv => whnf)
        | fail
      have hX := fun l hl => X_ok (V := V) (H := H) (L := L) (s := s) (w := w) (m := t1.length) (F0 := fB D w t1) (fun i _ => ⟨sBegin_len _ _ _ _, sBegin_i32 _ _ _ _⟩) l hl
      refine WP.loopM [12, 13, 14, 15, 16, 17, 18, 19, 20, 70, 71, 80, 81, 82] (fun i : Nat => [(12, rows3O (mp L fun l => mp i (kF D H s w (fB D w t1) l))), (13, rows3O (mp L fun l => mp i (vF D H s w (fB D w t1) l))), (14, rowA (some 0) (if i = 0 then [] else X D H s w (fB D w t1) L (i - 1))), (70, .i .i64 i)]) (fun i => i ≤ t1.length) (fun i => t1.length - i) 0 ?_
      conv => whnf
      refine And.intro (And.intro ?_ ?_) (fun i hi => ?_)
      · first | omega | trivial | skip
      · conv => whnf
        repeat' first
          | apply True.intro
          | (apply ptr_and; (· kernel_rfl); conv => whnf)
          | omega
          | (apply Or.inr; rfl)
          | (apply Or.inl; rfl)
          | (apply or_row; (· rfl); (· rfl); rfl)
          | (apply And.intro <;> conv => whnf)
          | fail
      conv => whnf
      have hget : i < t1.length → ∃ q : Nat, q = (t1.getD i 0).toNat ∧ t1.getD ((i : Int).toNat) 0 = (q : Int) ∧ q < V := fun hi => by
        have := p3.2.2 _ (getD_mem hi 0)
        have := hc.gv
        exact ⟨_, rfl, by rw [Int.toNat_natCast]; omega, by omega⟩
      by_cases him : i < t1.length
      · obtain ⟨q, hq1, hq2, hq3⟩ := hget him
        have hbeg : Impl Try.prog 27 [wtsA none none w, .i .i64 q, .i .i64 i] (rowA (some 0) (X D H s w (fB D w t1) 0 i)) := by
          show Impl _ _ _ (rowA (some 0) (sBegin D w (t1.getD i 0).toNat i))
          rw [← hq1]; exact begin_ok hg hq3 (by omega) (by have := hc.gd; omega)
        repeat' first
          | apply WP.seq
          | (apply WP.region (E := ePassOne) mixed tbl_ok; conv => whnf)
          | (apply WP.cond; conv => whnf)
          | (apply WP.skip; conv => whnf)
          | apply WP.block
          | (apply ex_ints; (· omega); rw [hq2]; conv => whnf)
          | (rw [fz_blks]; conv => whnf)
          | (apply reg_and; (· kernel_rfl); conv => whnf)
          | (apply ex_and; (· with_reducible exact hbeg); conv => whnf)
          | (apply ex_glen; conv => whnf)
          | (apply ex_eq; conv => whnf)
          | (apply nd_ints; (· omega); conv => whnf)
          | (apply And.intro; (· first | with_reducible rfl | exact trivial | exact Or.inl ⟨rfl, rfl⟩ | exact Or.inr rfl | decide | omega | (apply Nat.le_of_ble_eq_true; rfl) | (dsimp only; omega) | (simp only [ints_len, gl_len, mp_len, List.length_cons, List.length_nil, List.length_drop, List.length_take]; omega)); conv => whnf)
          | (apply br_yes; (· omega); conv => whnf)
          | fail
        clear hbeg
        have hKl : ∀ (F : Nat → Nat → List Int) (l : Nat), (mp L fun l' => if l' < l then mp (i + 1) (F l') else mp i (F l')).length = L := fun F l => mp_len _ _
        have hK0 : ∀ F : Nat → Nat → List Int, (mp L fun l' => if l' < 0 then mp (i + 1) (F l') else mp i (F l')) = mp L fun l' => mp i (F l') := fun F => mp_congr fun j hj => by rw [if_neg (by omega)]
        have hKL : ∀ F : Nat → Nat → List Int, (mp L fun l' => if l' < L then mp (i + 1) (F l') else mp i (F l')) = mp L fun l' => mp (i + 1) (F l') := fun F => mp_congr fun j hj => by rw [if_pos hj]
        have hKset : ∀ (F : Nat → Nat → List Int) (l : Nat), l < L → (mp L fun l' => if l' < l then mp (i + 1) (F l') else mp i (F l')).set ((l : Nat) : Int).toNat (mp (i + 1) (F l)) = mp L fun l' => if l' < l + 1 then mp (i + 1) (F l') else mp i (F l') := fun F l hl => by
          rw [Int.toNat_natCast]
          refine List.ext_getElem (by rw [List.length_set, mp_len, mp_len]) fun j h1 h2 => ?_
          rw [mp_len] at h2
          rw [List.getElem_set, mp_at, mp_at]
          by_cases e : l = j
          · subst e; rw [if_pos rfl, if_pos (by omega)]
          · rw [if_neg e]
            by_cases h : j < l
            · rw [if_pos h, if_pos (by omega)]
            · rw [if_neg h, if_neg (by omega)]
        have hKat : ∀ (F : Nat → Nat → List Int) (f : List (List Int) → AV) (l : Nat), l < L → (gl f (mp L fun l' => if l' < l then mp (i + 1) (F l') else mp i (F l')))[((l : Nat) : Int).toNat]? = some (f (mp i (F l))) := fun F f l hl => by
          rw [Int.toNat_natCast]; unfold gl mp; rw [List.getElem?_map, List.getElem?_map, List.getElem?_range hl]; simp
        obtain ⟨Kn, hKn⟩ : ∃ Kn : Nat → List (List (List Int)), ∀ l, Kn l = mp L fun l' => if l' < l then mp (i + 1) (kF D H s w (fB D w t1) l') else mp i (kF D H s w (fB D w t1) l') := ⟨_, fun _ => rfl⟩
        obtain ⟨Vn, hVn⟩ : ∃ Vn : Nat → List (List (List Int)), ∀ l, Vn l = mp L fun l' => if l' < l then mp (i + 1) (vF D H s w (fB D w t1) l') else mp i (vF D H s w (fB D w t1) l') := ⟨_, fun _ => rfl⟩
        have k0 := hK0 (kF D H s w (fB D w t1))
        have v0 := hK0 (vF D H s w (fB D w t1))
        rw [← hKn] at k0
        rw [← hVn] at v0
        have hml : ∀ F : Nat → Nat → List Int, (mp L fun l' => mp i (F l')).length = L := fun F => mp_len _ _
        rw [← k0, ← v0]
        have hKn0 : (Kn 0).length = L := by rw [hKn, mp_len]
        refine WP.loopM [12, 13, 14, 17, 18, 19, 20, 81, 82] (fun l : Nat => [(12, rows3O (Kn l)), (13, rows3O (Vn l)), (14, rowA (some 0) (X D H s w (fB D w t1) l i)), (81, .i .i64 l)]) (fun l => l ≤ L) (fun l => L - l) 0 ?_
        conv => whnf
        refine And.intro (And.intro ?_ ?_) (fun l hl => ?_)
        · first | omega | trivial | skip
        · conv => whnf
          repeat' first
            | apply True.intro
            | (apply ptr_and; (· kernel_rfl); conv => whnf)
            | omega
            | (apply Or.inr; rfl)
            | (apply or_row; (· rfl); (· rfl); rfl)
            | (apply And.intro <;> conv => whnf)
            | fail
        conv => whnf
        by_cases hlL : l < L
        · obtain ⟨b, hb⟩ : ∃ b, w.blocks[l]? = some b := ⟨_, List.getElem?_eq_getElem (by omega)⟩
          have hbg : BlkG D H b := hg.blocks b (List.mem_of_getElem? hb)
          have hbat : (gl (blkA none) w.blocks)[((l : Nat) : Int).toNat]? = some (blkA none b) := by rw [Int.toNat_natCast]; unfold gl; rw [List.getElem?_map, hb]; rfl
          have hkb : ∀ i, kF D H s w (fB D w t1) l i = sK D b (X D H s w (fB D w t1) l i) := fun i => by unfold kF; rw [hb]
          have hvb : ∀ i, vF D H s w (fB D w t1) l i = sV D b (X D H s w (fB D w t1) l i) := fun i => by unfold vF; rw [hb]
          have hXn : X D H s w (fB D w t1) (l + 1) i = (sOne D H s b (X D H s w (fB D w t1) l i) (mp i (kF D H s w (fB D w t1) l)) (mp i (vF D H s w (fB D w t1) l))).x := by
            show (match w.blocks[l]? with | some b => lx D H s b (X D H s w (fB D w t1) l) i | none => []) = _
            rw [hb]
            show lx D H s b (X D H s w (fB D w t1) l) i = _
            unfold lx
            rw [mp_congr fun i _ => hkb i, mp_congr fun i _ => hvb i]; rfl
          have hx := hX l (by omega) i him
          have hone : ∀ {nx nk nv : Option Bool}, Impl Try.prog 28 [cfgA c, blkA none b, .sl none nx 1 false (ints .i32 (X D H s w (fB D w t1) l i)), .sl none nk 1 true (gl (rowA none) (mp i (kF D H s w (fB D w t1) l))), .sl none nv 1 true (gl (rowA none) (mp i (vF D H s w (fB D w t1) l)))] (.tup [rowA (some 0) (X D H s w (fB D w t1) (l + 1) i), rowA (some 0) (kF D H s w (fB D w t1) l i), rowA (some 0) (vF D H s w (fB D w t1) l i)]) := fun {nx nk nv} => by
            rw [hXn, hkb i, hvb i]
            refine one_okN hc.gn.1 hc.gn.2 hc.gs hc.gd.2 (by have := hc.gh; omega) hbg hx.1 hx.2 (mp_rowsN fun j hj => ?_) (mp_rowsN fun j hj => ?_) ⟨by rw [mp_len, mp_len], by rw [mp_len]; omega⟩
            · rw [hkb]; exact ⟨sApply_len _ _ _ _, sApply_i32 _ _ _ _⟩
            · rw [hvb]; exact ⟨sApply_len _ _ _ _, sApply_i32 _ _ _ _⟩
          have hk1 := mp_succ i (kF D H s w (fB D w t1) l)
          have hv1 := mp_succ i (vF D H s w (fB D w t1) l)
          have hks := hKset (kF D H s w (fB D w t1)) l hlL
          have hvs := hKset (vF D H s w (fB D w t1)) l hlL
          rw [← hKn, ← hKn] at hks
          rw [← hVn, ← hVn] at hvs
          have hKa := hKat (kF D H s w (fB D w t1)) (rowsA none) l hlL
          have hVa := hKat (vF D H s w (fB D w t1)) (rowsA none) l hlL
          have hKo := hKat (kF D H s w (fB D w t1)) rowsO l hlL
          have hVo := hKat (vF D H s w (fB D w t1)) rowsO l hlL
          rw [← hKn] at hKa hKo
          rw [← hVn] at hVa hVo
          have hKl1 : (Kn l).length = L := by rw [hKn, mp_len]
          have hVl1 : (Vn l).length = L := by rw [hVn, mp_len]
          have hKy : ((gl rowsO (Kn l)).set ((l : Nat) : Int).toNat .any)[((l : Nat) : Int).toNat]? = some .any := List.getElem?_set_self (by rw [gl_len]; omega)
          have hVy : ((gl rowsO (Vn l)).set ((l : Nat) : Int).toNat .any)[((l : Nat) : Int).toNat]? = some .any := List.getElem?_set_self (by rw [gl_len]; omega)
          have hln : ((l : Nat) : Int).toNat < L := by omega
          clear hKset hKat hX hXn hkb hvb
          repeat' first
            | (refine WP.nrm (c := .region 20 _ _) 12 (rows3O (Kn (l + 1))) ?_; (conv => whnf); refine And.intro (And.intro (by rw [← hks]; exact nle_put (by omega)) True.intro) ?_; (conv => whnf); refine And.intro (by kernel_rfl) (And.intro (by kernel_rfl) ?_))
            | (refine WP.nrm (c := .region 21 _ _) 13 (rows3O (Vn (l + 1))) ?_; (conv => whnf); refine And.intro (And.intro (by rw [← hvs]; exact nle_put (by omega)) True.intro) ?_; (conv => whnf); refine And.intro (by kernel_rfl) (And.intro (by kernel_rfl) ?_))
            | (refine WP.regionB (E := ePassOne) (id := 17) [(20, 17), (21, 18), (22, 19)] [(18, 84, 0), (19, 84, 1), (20, 84, 2)] mixed tbl_ok ?_ ?_ ?_ ?_; (· kernel_rfl); (· kernel_rfl); (· kernel_rfl); conv => whnf)
            | apply WP.seq
            | (apply WP.region (E := ePassOne) mixed tbl_ok; conv => whnf)
            | (apply WP.cond; conv => whnf)
            | (apply WP.skip; conv => whnf)
            | apply WP.block
            | (apply nd_set; (· omega); conv => whnf)
            | (apply ex_at hKa; conv => whnf)
            | (apply ex_at hVa; conv => whnf)
            | (apply ex_at hKo; conv => whnf)
            | (apply ex_at hVo; conv => whnf)
            | (apply ex_at hKy; conv => whnf)
            | (apply ex_at hVy; conv => whnf)
            | (apply ex_at hbat; conv => whnf)
            | (rw [fz_blks]; conv => whnf)
            | (rw [fz_rowsO]; conv => whnf)
            | (rw [fz_rows]; conv => whnf)
            | (rw [gl_snocR]; conv => whnf)
            | (rw [← hk1]; conv => whnf)
            | (rw [← hv1]; conv => whnf)
            | (apply reg_and; (· kernel_rfl); conv => whnf)
            | (apply ex_and; (· with_reducible exact hone); conv => whnf)
            | (apply ex_i64; (· omega); conv => whnf)
            | (apply ex_eq; conv => whnf)
            | (apply nd_gl; (· omega); conv => whnf)
            | (apply And.intro; (· first | with_reducible rfl | exact trivial | exact Or.inl ⟨rfl, rfl⟩ | exact Or.inr rfl | decide | omega | (apply Nat.le_of_ble_eq_true; rfl) | (dsimp only; omega) | (simp only [ints_len, gl_len, mp_len, List.length_cons, List.length_nil, List.length_drop, List.length_take]; omega)); conv => whnf)
            | (apply br_yes; (· omega); conv => whnf)
            | fail
          · refine Exists.intro (l + 1) (And.intro (And.intro ?_ ?_) ?_)
            · first | omega | skip
            · first | omega | skip
            conv => whnf
            repeat' first
              | apply True.intro
              | (apply ptr_and; (· kernel_rfl); conv => whnf)
              | omega
              | (apply Or.inr; rfl)
              | (apply or_row; (· rfl); (· rfl); rfl)
              | (apply And.intro <;> conv => whnf)
              | fail
        · have e : l = L := by omega
          subst e
          have hKe := hKL (kF D H s w (fB D w t1))
          have hVe := hKL (vF D H s w (fB D w t1))
          rw [← hKn] at hKe
          rw [← hVn] at hVe
          rw [hKe, hVe]
          repeat' first
            | apply WP.seq
            | (apply WP.region (E := ePassOne) mixed tbl_ok; conv => whnf)
            | (apply WP.cond; conv => whnf)
            | (apply WP.exit; conv => whnf)
            | (apply reg_and; (· kernel_rfl); conv => whnf)
            | (apply ex_i64; (· omega); conv => whnf)
            | (apply ex_eq; conv => whnf)
            | (apply And.intro; (· first | with_reducible rfl | exact trivial | exact Or.inl ⟨rfl, rfl⟩ | exact Or.inr rfl | decide | omega | (apply Nat.le_of_ble_eq_true; rfl) | (dsimp only; omega) | (simp only [ints_len, gl_len, mp_len, List.length_cons, List.length_nil, List.length_drop, List.length_take]; omega)); conv => whnf)
            | (apply br_no; (· omega); conv => whnf)
            | fail
          · refine Exists.intro (i + 1) (And.intro (And.intro ?_ ?_) ?_)
            · first | omega | skip
            · first | omega | skip
            conv => whnf
            repeat' first
              | apply True.intro
              | (apply ptr_and; (· kernel_rfl); conv => whnf)
              | omega
              | (apply Or.inr; rfl)
              | (apply or_row; (· rfl); (· rfl); rfl)
              | (apply And.intro <;> conv => whnf)
              | fail
      · have e : i = t1.length := by omega
        subst e
        rw [if_neg (by omega)]
        have hxl := hX L (by omega) (t1.length - 1) (by omega)
        have hlik : ∀ {nx : Option Bool}, Impl Try.prog 29 [wtsA none none w, .sl none nx 1 false (ints .i32 (X D H s w (fB D w t1) L (t1.length - 1)))] (rowA (some 0) (sLikes V D w (X D H s w (fB D w t1) L (t1.length - 1)))) := fun {nx} => likes_ok (by have := hc.gd; omega) hg hxl.1 hxl.2
        have hfl : (sLikes V D w (X D H s w (fB D w t1) L (t1.length - 1))).length ≤ 1000000000000 := by unfold sLikes; rw [sApply_len]; have := hc.gv; omega
        generalize (mp L fun l => mp t1.length (kF D H s w (fB D w t1) l)) = ks at *
        generalize (mp L fun l => mp t1.length (vF D H s w (fB D w t1) l)) = vs at *
        generalize (sLikes V D w (X D H s w (fB D w t1) L (t1.length - 1))) = fu at *
        repeat' first
          | apply WP.seq
          | (apply WP.region (E := ePassOne) mixed tbl_ok; conv => whnf)
          | (apply WP.cond; conv => whnf)
          | (apply WP.ret; conv => whnf)
          | (apply WP.exit; conv => whnf)
          | (rw [fz_blks]; conv => whnf)
          | (rw [fz_rowsO]; conv => whnf)
          | (rw [fz_rows3]; conv => whnf)
          | (rw [decide_eq_true (rfl : fu = fu)]; conv => whnf)
          | (rw [decide_eq_true (rfl : ks = ks)]; conv => whnf)
          | (rw [decide_eq_true (rfl : vs = vs)]; conv => whnf)
          | (apply reg_and; (· kernel_rfl); conv => whnf)
          | (apply ex_and; (· with_reducible exact awake8_ok); conv => whnf)
          | (apply ex_and; (· with_reducible exact hlik); conv => whnf)
          | (apply ex_and; (· with_reducible exact same3_ok hfl); conv => whnf)
          | (apply ex_and; (· with_reducible exact same8_ok hks.1 hks.2); conv => whnf)
          | (apply ex_and; (· with_reducible exact same8_ok hvs.1 hvs.2); conv => whnf)
          | (apply ex_eq; conv => whnf)
          | ((with_reducible apply gd_t); conv => whnf)
          | (apply And.intro; (· first | with_reducible rfl | exact trivial | exact Or.inl ⟨rfl, rfl⟩ | exact Or.inr rfl | decide | omega | (apply Nat.le_of_ble_eq_true; rfl) | (dsimp only; omega) | (simp only [ints_len, gl_len, mp_len, List.length_cons, List.length_nil, List.length_drop, List.length_take]; omega)); conv => whnf)
          | (apply br_no; (· omega); conv => whnf)
          | fail
    · clear hg
      refine impl_of (fn := Try.f7) tbl_ok (by kernel_rfl) (by kernel_rfl) rfl ⟨by simp [Try.f7], by decide⟩ rfl fun W0 => ?_
      repeat' first
        | apply WP.seq
        | (apply WP.region (E := ePassOne) mixed tbl_ok; conv => whnf)
        | (apply WP.cond; conv => whnf)
        | (apply WP.ret; conv => whnf)
        | (apply reg_and; (· kernel_rfl); conv => whnf)
        | (apply ex_and; (· with_reducible exact hF); conv => whnf)
        | (apply ex_and; (· with_reducible exact hM); conv => whnf)
        | (apply ex_and; (· with_reducible exact hsm); conv => whnf)
        | (apply ex_and; (· with_reducible exact hP); conv => whnf)
        | (apply ex_and; (· with_reducible exact awake8_ok); conv => whnf)
        | (apply ex_eq; conv => whnf)
        | (apply gd_br)
        | (apply And.intro; (· first | with_reducible rfl | exact trivial | exact Or.inl ⟨rfl, rfl⟩ | exact Or.inr rfl | decide | omega | (apply Nat.le_of_ble_eq_true; rfl) | (dsimp only; omega) | (simp only [ints_len, gl_len, mp_len, List.length_cons, List.length_nil, List.length_drop, List.length_take]; omega)); conv => whnf)
        | apply br_not
        | (apply br_t; conv => whnf)
        | (apply br_yes; (· omega); conv => whnf)
        | (apply br_no; (· omega); conv => whnf)
        | (apply br_dec <;> intro hbr <;> (first | rw [decide_eq_true hbr] | rw [decide_eq_false hbr] | skip) <;> conv => whnf)
        | fail
      all_goals exact absurd ⟨by omega, by omega⟩ hok
  · have hM := make_err (c := c) (seed := seed) hsh
    generalize shp c = k at *
    refine impl_of (fn := Try.f7) tbl_ok (by kernel_rfl) (by kernel_rfl) rfl ⟨by simp [Try.f7], by decide⟩ rfl fun W0 => ?_
    repeat' first
      | apply WP.seq
      | (apply WP.region (E := ePassOne) mixed tbl_ok; conv => whnf)
      | (apply WP.cond; conv => whnf)
      | (apply WP.ret; conv => whnf)
      | (apply reg_and; (· kernel_rfl); conv => whnf)
      | (apply ex_and; (· with_reducible exact hF); conv => whnf)
      | (apply ex_and; (· with_reducible exact hM); conv => whnf)
      | (apply ex_and; (· with_reducible exact awake8_ok); conv => whnf)
      | (apply ex_eq; conv => whnf)
      | ((with_reducible apply gd_t); conv => whnf)
      | (apply gd_br)
      | (apply And.intro; (· first | with_reducible rfl | exact trivial | exact Or.inl ⟨rfl, rfl⟩ | exact Or.inr rfl | decide | omega | (apply Nat.le_of_ble_eq_true; rfl) | (dsimp only; omega) | (simp only [ints_len, gl_len, mp_len, List.length_cons, List.length_nil, List.length_drop, List.length_take]; omega)); conv => whnf)
      | apply br_not
      | (apply br_t; conv => whnf)
      | (apply br_no; (· omega); conv => whnf)
      | fail
end Go.Proofs.Ytcngjnhdemjomaa.T
namespace Go.Proofs.Ytcngjnhdemjomaa.T
set_option linter.unusedSimpArgs false
set_option linter.unusedVariables false
open Go
set_option linter.unusedVariables false
set_option maxHeartbeats 8000000
set_option maxRecDepth 100000
/-- Whether a row is nil need not be known. -/
theorem take_snoc {α : Type} {l : List α} {i : Nat} (d : α) (h : i < l.length) : l.take (i + 1) = l.take i ++ [l.getD i d] := by
  rw [List.take_add_one, List.getD_eq_getElem?_getD, List.getElem?_eq_getElem h]; rfl
theorem rw_nil {w : World} {F : Nat → Prop} {sz : Nat} {dp : Bool} {l : List AV} {v : Value} (h : RW w F (.sl none none sz dp l) v []) : ∃ b, (b = true → l = []) ∧ RW w F (.sl none (some b) sz dp l) v [] := by
  have h1 : Rp w F (.sl none none sz dp l) [v] [] := h
  cases h1 with
  | @fz A _ _ _ _ cap b off cs hc hm hn h0 hA hl hr hd hw =>
    refine ⟨A.isNone, fun e => ?_, ?_⟩
    · cases A with
      | none => exact (h0 rfl).1
      | some a => cases e
    · refine (Rp.fz (nil := some A.isNone) hc hm (fun x hx => ?_) h0 hA hl hr hd hw : Rp w F _ [.slice A l.length cap] [])
      cases hx
      cases A <;> simp
theorem impl_nil1 {P : Program} {f : Nat} {sz : Nat} {dp : Bool} {l : List AV} {r : AV} (h : ∀ b : Bool, (b = true → l = []) → Impl P f [.sl none (some b) sz dp l] r) : Impl P f [.sl none none sz dp l] r := by
  have h0 := (h false (fun e => by cases e)).f (fun e he l => by cases he; intro e'; cases e')
  refine headOk_impl rfl ⟨h0.fn, fun F w vs hs hv hF => ?_⟩
  have hs1 : vs.size = 1 := hs
  obtain ⟨b, hb1, hb2⟩ := rw_nil (hv 0 _ (vs[0]'(by omega)) rfl (Array.getElem?_eq_getElem (by omega)))
  refine ((h b hb1).f (fun e he l => by cases he; intro e'; cases e')).calls F w vs hs (fun j e v he hv2 => ?_) hF
  cases j with
  | zero =>
    cases he
    rw [Array.getElem?_eq_getElem (by omega)] at hv2
    cases hv2
    exact hb2
  | succ j => cases he
def eCl1 : Env := ⟨tbl, [], [], [], [(0, [0]), (1, [0, 4]), (2, [2]), (3, [2])]⟩
theorem clone1_ok {nl : Option Bool} {l : List Int} (hl : l.length ≤ 1000000) : Impl Try.prog 60 [.sl none nl 1 false (ints .i64 l)] (.sl (some 0) none 1 false (ints .i64 l)) := by
  have hb : ∀ b : Bool, (b = true → ints .i64 l = []) → Impl Try.prog 60 [.sl none (some b) 1 false (ints .i64 l)] (.sl (some 0) none 1 false (ints .i64 l)) := fun b hb => by
    cases b with
    | true =>
      rw [hb rfl]
      refine impl_of (fn := Try.f60) tbl_ok (by kernel_rfl) (by kernel_rfl) rfl ⟨by simp [Try.f60], by decide⟩ rfl fun W0 => ?_
      repeat' first
        | apply WP.seq
        | (apply WP.region (E := eCl1) mixed tbl_ok; conv => whnf)
        | (apply WP.cond; conv => whnf)
        | (apply WP.ret; conv => whnf)
        | (apply reg_and; (· kernel_rfl); conv => whnf)
        | (apply And.intro; (· first | with_reducible rfl | exact trivial | exact Or.inl ⟨rfl, rfl⟩ | exact Or.inr rfl | decide | omega | (apply Nat.le_of_ble_eq_true; rfl) | (dsimp only; omega) | (simp only [ints_len, gl_len, mp_len, List.length_cons, List.length_nil, List.length_drop, List.length_take]; omega)); conv => whnf)
        | (apply br_t; conv => whnf)
        | fail
      repeat' first
        | (apply Or.inr; apply And.intro; (· rfl); rfl)
        | fail
    | false =>
      refine impl_of (fn := Try.f60) tbl_ok (by kernel_rfl) (by kernel_rfl) rfl ⟨by simp [Try.f60], by decide⟩ rfl fun W0 => ?_
      repeat' first
        | (rw [List.nil_append]; conv => whnf)
        | apply WP.seq
        | (apply WP.region (E := eCl1) mixed tbl_ok; conv => whnf)
        | (apply WP.cond; conv => whnf)
        | (apply WP.skip; conv => whnf)
        | (apply WP.ret; conv => whnf)
        | (apply reg_and; (· kernel_rfl); conv => whnf)
        | (apply And.intro; (· first | with_reducible rfl | exact trivial | exact Or.inl ⟨rfl, rfl⟩ | exact Or.inr rfl | decide | omega | (apply Nat.le_of_ble_eq_true; rfl) | (dsimp only; omega) | (simp only [ints_len, gl_len, mp_len, List.length_cons, List.length_nil, List.length_drop, List.length_take]; omega)); conv => whnf)
        | (apply br_f; conv => whnf)
        | fail
      repeat' first
        | (apply Or.inl; rfl)
        | (apply or_row; (· rfl); (· rfl); rfl)
        | (apply And.intro <;> conv => whnf)
        | fail
  refine impl_le (impl_nil1 hb) ?_ rfl
  exact ⟨⟨rfl, .inl rfl, .inl ⟨rfl, rfl, rfl⟩⟩, trivial⟩
def eCl2 : Env := ⟨tbl, [], [], [], [(0, [0]), (1, [0, 4]), (2, [2]), (3, [2])]⟩
theorem clone2_ok {nl : Option Bool} {l : List Int} (hl : l.length ≤ 1000000) : Impl Try.prog 93 [.sl none nl 1 false (ints .i32 l)] (rowA (some 0) l) := by
  have hb : ∀ b : Bool, (b = true → ints .i32 l = []) → Impl Try.prog 93 [.sl none (some b) 1 false (ints .i32 l)] (rowA (some 0) l) := fun b hb => by
    cases b with
    | true =>
      rw [rowA, hb rfl]
      refine impl_of (fn := Try.f93) tbl_ok (by kernel_rfl) (by kernel_rfl) rfl ⟨by simp [Try.f93], by decide⟩ rfl fun W0 => ?_
      repeat' first
        | apply WP.seq
        | (apply WP.region (E := eCl2) mixed tbl_ok; conv => whnf)
        | (apply WP.cond; conv => whnf)
        | (apply WP.ret; conv => whnf)
        | (apply reg_and; (· kernel_rfl); conv => whnf)
        | (apply And.intro; (· first | with_reducible rfl | exact trivial | exact Or.inl ⟨rfl, rfl⟩ | exact Or.inr rfl | decide | omega | (apply Nat.le_of_ble_eq_true; rfl) | (dsimp only; omega) | (simp only [ints_len, gl_len, mp_len, List.length_cons, List.length_nil, List.length_drop, List.length_take]; omega)); conv => whnf)
        | (apply br_t; conv => whnf)
        | fail
      repeat' first
        | (apply Or.inr; apply And.intro; (· rfl); rfl)
        | fail
    | false =>
      refine impl_of (fn := Try.f93) tbl_ok (by kernel_rfl) (by kernel_rfl) rfl ⟨by simp [Try.f93], by decide⟩ rfl fun W0 => ?_
      repeat' first
        | (rw [List.nil_append]; conv => whnf)
        | apply WP.seq
        | (apply WP.region (E := eCl2) mixed tbl_ok; conv => whnf)
        | (apply WP.cond; conv => whnf)
        | (apply WP.skip; conv => whnf)
        | (apply WP.ret; conv => whnf)
        | (apply reg_and; (· kernel_rfl); conv => whnf)
        | (apply And.intro; (· first | with_reducible rfl | exact trivial | exact Or.inl ⟨rfl, rfl⟩ | exact Or.inr rfl | decide | omega | (apply Nat.le_of_ble_eq_true; rfl) | (dsimp only; omega) | (simp only [ints_len, gl_len, mp_len, List.length_cons, List.length_nil, List.length_drop, List.length_take]; omega)); conv => whnf)
        | (apply br_f; conv => whnf)
        | fail
      repeat' first
        | (apply Or.inl; rfl)
        | (apply or_row; (· rfl); (· rfl); rfl)
        | (apply And.intro <;> conv => whnf)
        | fail
  refine impl_le (impl_nil1 hb) ?_ rfl
  exact ⟨⟨rfl, .inl rfl, .inl ⟨rfl, rfl, rfl⟩⟩, trivial⟩
/-- So many rows of so many numbers. -/
def rowsC (n d : Int) (l : List (List Int)) : Prop := (∀ r ∈ l, (r.length : Int) = d) ∧ (l.length : Int) = n
instance (n d : Int) (l : List (List Int)) : Decidable (rowsC n d l) := by unfold rowsC; infer_instance
def eRows9 : Env := ⟨tbl, [], [], [], [(0, [0, 1, 2]), (1, [0, 1, 2, 9, 10, 11]), (2, [0, 1, 2, 9, 10, 11, 12]), (3, [0, 1, 2, 8, 9, 10, 11]), (4, [0, 1, 2, 9, 10, 11, 18]), (5, [6]), (6, [0, 1, 2, 9, 10, 11]), (7, [6])]⟩
theorem rows9_ok {nl : Option Bool} {n d : Int} {l : List (List Int)} (hl : l.length ≤ 1000000) : Impl Try.prog 94 [.sl none nl 1 true (gl (rowA none) l), .i .i64 n, .i .i64 d] (.b (decide (rowsC n d l))) := by
  refine impl_of (fn := Try.f94) tbl_ok (by kernel_rfl) (by kernel_rfl) rfl ⟨by simp [Try.f94], by decide⟩ rfl fun W0 => ?_
  repeat' first
    | apply WP.seq
    | (apply WP.region (E := eRows9) mixed tbl_ok; conv => whnf)
    | apply WP.block
    | (apply reg_and; (· kernel_rfl); conv => whnf)
    | (apply ex_glen; conv => whnf)
    | fail
  refine WP.loopM [8, 11, 12, 18] (fun i : Nat => [(11, .i .i64 i)]) (fun i => i ≤ l.length ∧ ∀ j, j < i → ((l.getD j []).length : Int) = d) (fun i => l.length - i) 0 ?_
  conv => whnf
  refine And.intro (And.intro ?_ ?_) (fun i hi => ?_)
  · exact ⟨by omega, fun j hj => absurd hj (by omega)⟩
  · conv => whnf
    repeat' first
      | apply True.intro
      | (apply ptr_and; (· kernel_rfl); conv => whnf)
      | omega
      | (apply Or.inr; rfl)
      | (apply or_row; (· rfl); (· rfl); rfl)
      | (apply And.intro <;> conv => whnf)
      | fail
  conv => whnf
  obtain ⟨hi1, hi2⟩ := hi
  have ha := fun h => gl_at (f := rowA none) (l := l) (i := i) [] h
  have hm := fun h => getD_in (l := l) (i := i) [] h
  obtain ⟨x, hx⟩ : ∃ x, x = l.getD i [] := ⟨_, rfl⟩
  rw [← hx] at ha hm
  repeat' first
    | apply WP.seq
    | (apply WP.region (E := eRows9) mixed tbl_ok; conv => whnf)
    | (apply WP.cond; conv => whnf)
    | (apply WP.skip; conv => whnf)
    | (apply WP.ret; conv => whnf)
    | (apply WP.exit; conv => whnf)
    | apply WP.block
    | (apply ex_at (ha (by omega)); conv => whnf)
    | (apply reg_and; (· kernel_rfl); conv => whnf)
    | (apply ex_ilen; conv => whnf)
    | (apply ex_glen; conv => whnf)
    | (apply ex_i64; (· omega); conv => whnf)
    | (apply ex_eq; conv => whnf)
    | (apply nd_gl; (· omega); conv => whnf)
    | (apply And.intro; (· first | with_reducible rfl | exact trivial | exact Or.inl ⟨rfl, rfl⟩ | exact Or.inr rfl | decide | omega | (apply Nat.le_of_ble_eq_true; rfl) | (dsimp only; omega) | (simp only [ints_len, gl_len, mp_len, List.length_cons, List.length_nil, List.length_drop, List.length_take]; omega)); conv => whnf)
    | apply br_not
    | (apply br_dec <;> intro hbr <;> (first | rw [decide_eq_true hbr] | rw [decide_eq_false hbr] | skip) <;> conv => whnf)
    | fail
  · refine Exists.intro (i + 1) (And.intro (And.intro ⟨by omega, fun j hj => ?_⟩ (by omega)) ?_)
    · by_cases e : j = i
      · subst e; rw [← hx]; omega
      · exact hi2 j (by omega)
    · conv => whnf
      repeat' first
        | apply True.intro
        | (apply ptr_and; (· kernel_rfl); conv => whnf)
        | omega
        | (apply Or.inr; rfl)
        | (apply or_row; (· rfl); (· rfl); rfl)
        | (apply And.intro <;> conv => whnf)
        | fail
  · exact (decide_eq_false fun e => absurd (e.1 x (hm (by omega))) (by assumption)).symm
  · have hall : ∀ r ∈ l, (r.length : Int) = d := fun r hr => by
      obtain ⟨j, hj⟩ := List.mem_iff_getElem?.1 hr
      have := hi2 j (by have := lt_of_get hj; omega)
      rwa [List.getD_eq_getElem?_getD, hj] at this
    by_cases e : (l.length : Int) = n
    · rw [decide_eq_true (show rowsC n d l from ⟨hall, e⟩)]; exact beq_iff_eq.2 e
    · rw [decide_eq_false (fun h : rowsC n d l => e h.2)]; exact beq_eq_false_iff_ne.2 e
/-- Rows nobody else holds. -/
abbrev rowsW (r : List (List Int)) : AV := .sl (some 0) none 1 true (gl (rowA (some 0)) r)
theorem nle_snoc {α : Type} {f : α → AV} {a : α} {l : List α} {nl nl2 : Option Bool} {s s0 sz : Nat} {dp : Bool} {q : List AV} (he : NLe (.sl (some s) nl2 sz dp q) (f a)) : NLe (.sl (some s0) nl 1 true (gl f l ++ [.sl (some s) nl2 sz dp q])) (.sl (some 0) none 1 true (gl f (l ++ [a]))) := by
  unfold gl
  refine .sl (.inl rfl) (by simp) fun j e e' h1 h2 => ?_
  rw [List.map_append] at h2
  by_cases hj : j < l.length
  · rw [List.getElem?_append_left (by simpa using hj)] at h1 h2
    rw [h1] at h2; cases h2; exact .refl _
  · rw [List.getElem?_append_right (by simpa using hj)] at h1 h2
    have : j - (l.map f).length = 0 := by
      have := lt_of_get h1
      simpa using this
    rw [this] at h1 h2
    cases h1; cases h2; exact he
theorem nle_row {s s' sz : Nat} {dp : Bool} {nl : Option Bool} (q : List AV) : NLe (.sl (some s) nl sz dp q) (.sl (some s') none sz dp q) := .sl (.inl rfl) rfl fun j e e' h1 h2 => by rw [h1] at h2; cases h2; exact .refl _
def eCopyR : Env := ⟨tbl, [], [15, 16], [], [(0, [0]), (1, [0, 3]), (2, [3, 6, 7, 8]), (3, [3, 6, 7, 8, 9]), (4, [3, 5, 6, 7, 8]), (5, [3, 6, 7, 8]), (6, [3, 6, 7, 8]), (7, [2])]⟩
theorem copyR_ok {nl : Option Bool} {l : List (List Int)} (hl : l.length ≤ 1000000) (hr : ∀ r ∈ l, r.length ≤ 1000000) : Impl Try.prog 61 [.sl none nl 1 true (gl (rowA none) l)] (rowsW l) := by
  refine impl_of (fn := Try.f61) tbl_ok (by kernel_rfl) (by kernel_rfl) rfl ⟨by simp [Try.f61], by decide⟩ rfl fun W0 => ?_
  repeat' first
    | apply WP.seq
    | (apply WP.region (E := eCopyR) mixed tbl_ok; conv => whnf)
    | apply WP.block
    | (apply reg_and; (· kernel_rfl); conv => whnf)
    | (apply ex_glen; conv => whnf)
    | fail
  refine WP.loopM [3, 5, 8, 9] (fun i : Nat => [(3, rowsW (l.take i)), (8, .i .i64 i)]) (fun i => i ≤ l.length) (fun i => l.length - i) 0 ?_
  conv => whnf
  refine And.intro (And.intro ?_ ?_) (fun i hi => ?_)
  · first | omega | trivial | skip
  · conv => whnf
    repeat' first
      | apply True.intro
      | (apply ptr_and; (· kernel_rfl); conv => whnf)
      | omega
      | (apply Or.inr; rfl)
      | (apply Or.inl; rfl)
      | (apply or_row; (· rfl); (· rfl); rfl)
      | (apply Or.inr; apply And.intro; (· rfl); rfl)
      | (apply And.intro <;> conv => whnf)
      | fail
  conv => whnf
  have ha := fun h => gl_at (f := rowA none) (l := l) (i := i) [] h
  have hm := fun h => hr _ (getD_in (l := l) (i := i) [] h)
  have ht := fun h : i < l.length => take_snoc (l := l) (i := i) [] h
  obtain ⟨x, hx⟩ : ∃ x, x = l.getD i [] := ⟨_, rfl⟩
  rw [← hx] at ha hm ht
  by_cases hi2 : i < l.length
  · repeat' first
      | (refine WP.nrm (c := .region 6 _ _) 3 (rowsW (l.take (i + 1))) ?_; (conv => whnf); refine And.intro (And.intro (by rw [ht (by omega)]; exact nle_snoc (nle_row _)) True.intro) ?_; (conv => whnf); refine And.intro (by kernel_rfl) (And.intro (by kernel_rfl) ?_))
      | apply WP.seq
      | (apply WP.region (E := eCopyR) mixed tbl_ok; conv => whnf)
      | (apply WP.cond; conv => whnf)
      | (apply WP.skip; conv => whnf)
      | apply WP.block
      | (apply ex_at (ha (by omega)); conv => whnf)
      | (apply reg_and; (· kernel_rfl); conv => whnf)
      | (apply ex_and; (· with_reducible exact clone2_ok (hm (by omega))); conv => whnf)
      | (apply ex_i64; (· omega); conv => whnf)
      | (apply ex_eq; conv => whnf)
      | (apply nd_gl; (· omega); conv => whnf)
      | (apply And.intro; (· first | with_reducible rfl | exact trivial | exact Or.inl ⟨rfl, rfl⟩ | exact Or.inr rfl | decide | omega | (apply Nat.le_of_ble_eq_true; rfl) | (dsimp only; omega) | (simp only [ints_len, gl_len, mp_len, List.length_cons, List.length_nil, List.length_drop, List.length_take]; omega)); conv => whnf)
      | (apply br_yes; (· omega); conv => whnf)
      | fail
    refine Exists.intro (i + 1) (And.intro (And.intro (by omega) (by omega)) ?_)
    conv => whnf
    repeat' first
      | apply True.intro
      | (apply ptr_and; (· kernel_rfl); conv => whnf)
      | omega
      | (apply Or.inr; rfl)
      | (apply or_row; (· rfl); (· rfl); rfl)
      | (apply And.intro <;> conv => whnf)
      | fail
  · repeat' first
      | apply WP.seq
      | (apply WP.region (E := eCopyR) mixed tbl_ok; conv => whnf)
      | (apply WP.cond; conv => whnf)
      | (apply WP.ret; conv => whnf)
      | (apply WP.exit; conv => whnf)
      | (apply reg_and; (· kernel_rfl); conv => whnf)
      | (apply ex_eq; conv => whnf)
      | (apply And.intro; (· first | with_reducible rfl | exact trivial | exact Or.inl ⟨rfl, rfl⟩ | exact Or.inr rfl | decide | omega | (apply Nat.le_of_ble_eq_true; rfl) | (dsimp only; omega) | (simp only [ints_len, gl_len, mp_len, List.length_cons, List.length_nil, List.length_drop, List.length_take]; omega)); conv => whnf)
      | (apply br_no; (· omega); conv => whnf)
      | fail
    rw [List.take_of_length_le (by omega)]
    exact .inl ⟨rfl, rfl, rfl⟩
theorem row_at {α : Type} {f : α → AV} {l : List α} {i : Nat} (d : α) (h : i < l.length) : (gl f l)[((i : Nat) : Int).toNat]? = some (f (l.getD i d)) := gl_at d h
abbrev rows3W (l : List (List (List Int))) : AV := .sl (some 0) none 1 true (gl rowsW l)
abbrev viewW (t : List Int) (K V : List (List (List Int))) : AV := .agg [.sl (some 0) none 1 false (ints .i64 t), rows3W K, rows3W V]
/-- Sizes of a view's rows. -/
def Siz3 (K : List (List (List Int))) : Prop := K.length ≤ 1000000 ∧ ∀ r ∈ K, r.length ≤ 1000000 ∧ ∀ x ∈ r, x.length ≤ 1000000
def eCopy : Env := ⟨tbl, [], [25, 26, 43, 44], [], [(0, [1, 2, 2999, 2000, 2001, 2002, 3999, 3000, 3001, 3002]), (1, [1, 2, 3, 2999, 2000, 2001, 2002, 3999, 3000, 3001, 3002, 4999, 4000, 4001, 4002]), (2, [1, 2, 3, 14, 15, 16, 2999, 2000, 2001, 2002, 3999, 3000, 3001, 3002, 4999, 4000, 4001, 4002]), (3, [1, 2, 3, 14, 15, 16, 17, 2999, 2000, 2001, 2002, 3999, 3000, 3001, 3002, 4999, 4000, 4001, 4002]), (4, [1, 2, 3, 5, 14, 15, 16, 2999, 2000, 2001, 2002, 3999, 3000, 3001, 3002, 4999, 4000, 4001, 4002]), (5, [1, 2, 3, 14, 15, 16, 2999, 2000, 2001, 2002, 3999, 3000, 3001, 3002, 4999, 4000, 4001, 4002]), (6, [1, 2, 3, 14, 15, 16, 2999, 2000, 2001, 2002, 3999, 3000, 3001, 3002, 4999, 4000, 4001, 4002]), (7, [2, 3, 32, 33, 34, 3999, 3000, 3001, 3002, 4999, 4000, 4001, 4002]), (8, [2, 3, 32, 33, 34, 35, 3999, 3000, 3001, 3002, 4999, 4000, 4001, 4002]), (9, [2, 3, 7, 32, 33, 34, 3999, 3000, 3001, 3002, 4999, 4000, 4001, 4002]), (10, [2, 3, 32, 33, 34, 3999, 3000, 3001, 3002, 4999, 4000, 4001, 4002]), (11, [2, 3, 32, 33, 34, 3999, 3000, 3001, 3002, 4999, 4000, 4001, 4002]), (12, [2, 3999, 3000, 3001, 3002])]⟩
theorem copy_ok {n1 n2 n3 : Option Bool} {t : List Int} {K V : List (List (List Int))} (ht : t.length ≤ 1000000) (hK : Siz3 K) (hV : Siz3 V) : Impl Try.prog 33 [.agg [.sl none n1 1 false (ints .i64 t), .sl none n2 1 true (gl (rowsA none) K), .sl none n3 1 true (gl (rowsA none) V)]] (viewW t K V) := by
  have hk := hK.1
  have hv := hV.1
  refine impl_of (fn := Try.f33) tbl_ok (by kernel_rfl) (by kernel_rfl) rfl ⟨by simp [Try.f33], by decide⟩ rfl fun W0 => ?_
  repeat' first
    | apply WP.seq
    | (apply WP.region (E := eCopy) mixed tbl_ok; conv => whnf)
    | apply WP.block
    | (apply reg_and; (· kernel_rfl); conv => whnf)
    | (apply ex_and; (· with_reducible exact clone1_ok ht); conv => whnf)
    | (apply ex_glen; conv => whnf)
    | fail
  refine WP.loopM [5, 16, 17, 4001] (fun i : Nat => [(4001, rows3W (K.take i)), (16, .i .i64 i)]) (fun i => i ≤ K.length) (fun i => K.length - i) 0 ?_
  conv => whnf
  refine And.intro (And.intro ?_ ?_) (fun i hi => ?_)
  · first | omega | trivial | skip
  · conv => whnf
    repeat' first
      | apply True.intro
      | (apply ptr_and; (· kernel_rfl); conv => whnf)
      | omega
      | (apply Or.inr; rfl)
      | (apply Or.inl; rfl)
      | (apply or_row; (· rfl); (· rfl); rfl)
      | (apply And.intro <;> conv => whnf)
      | fail
  conv => whnf
  have ha := fun h => gl_at (f := rowsA none) (l := K) (i := i) [] h
  have hm := fun h => hK.2 _ (getD_in (l := K) (i := i) [] h)
  have hts := fun h : i < K.length => take_snoc (l := K) (i := i) [] h
  obtain ⟨x, hx⟩ : ∃ x, x = K.getD i [] := ⟨_, rfl⟩
  rw [← hx] at ha hm hts
  by_cases hi2 : i < K.length
  · repeat' first
      | (refine WP.nrm (c := .region 6 _ _) 4001 (rows3W (K.take (i + 1))) ?_; (conv => whnf); refine And.intro (And.intro (by rw [hts (by omega)]; exact nle_snoc (nle_row _)) True.intro) ?_; (conv => whnf); refine And.intro (by kernel_rfl) (And.intro (by kernel_rfl) ?_))
      | apply WP.seq
      | (apply WP.region (E := eCopy) mixed tbl_ok; conv => whnf)
      | (apply WP.cond; conv => whnf)
      | (apply WP.skip; conv => whnf)
      | apply WP.block
      | (apply ex_at (ha (by omega)); conv => whnf)
      | (apply reg_and; (· kernel_rfl); conv => whnf)
      | (apply ex_and; (· with_reducible exact copyR_ok (hm (by omega)).1 (hm (by omega)).2); conv => whnf)
      | (apply ex_i64; (· omega); conv => whnf)
      | (apply ex_eq; conv => whnf)
      | (apply nd_gl; (· omega); conv => whnf)
      | (apply And.intro; (· first | with_reducible rfl | exact trivial | exact Or.inl ⟨rfl, rfl⟩ | exact Or.inr rfl | decide | omega | (apply Nat.le_of_ble_eq_true; rfl) | (dsimp only; omega) | (simp only [ints_len, gl_len, mp_len, List.length_cons, List.length_nil, List.length_drop, List.length_take]; omega)); conv => whnf)
      | (apply br_yes; (· omega); conv => whnf)
      | (rw [fz_rows]; conv => whnf)
      | fail
    refine Exists.intro (i + 1) (And.intro (And.intro (by omega) (by omega)) ?_)
    conv => whnf
    repeat' first
      | apply True.intro
      | (apply ptr_and; (· kernel_rfl); conv => whnf)
      | omega
      | (apply Or.inr; rfl)
      | (apply or_row; (· rfl); (· rfl); rfl)
      | (apply And.intro <;> conv => whnf)
      | fail
  clear ha hm hts hx
  repeat' first
    | apply WP.seq
    | (apply WP.region (E := eCopy) mixed tbl_ok; conv => whnf)
    | (apply WP.cond; conv => whnf)
    | (apply WP.exit; conv => whnf)
    | apply WP.block
    | (apply reg_and; (· kernel_rfl); conv => whnf)
    | (apply ex_glen; conv => whnf)
    | (apply ex_eq; conv => whnf)
    | (apply And.intro; (· first | with_reducible rfl | exact trivial | exact Or.inl ⟨rfl, rfl⟩ | exact Or.inr rfl | decide | omega | (apply Nat.le_of_ble_eq_true; rfl) | (dsimp only; omega) | (simp only [ints_len, gl_len, mp_len, List.length_cons, List.length_nil, List.length_drop, List.length_take]; omega)); conv => whnf)
    | (apply br_no; (· omega); conv => whnf)
    | fail
  rw [List.take_of_length_le (by omega)]
  refine WP.loopM [7, 34, 35, 4002] (fun j : Nat => [(4002, rows3W (V.take j)), (34, .i .i64 j)]) (fun j => j ≤ V.length) (fun j => V.length - j) 0 ?_
  conv => whnf
  refine And.intro (And.intro ?_ ?_) (fun j hj => ?_)
  · first | omega | trivial | skip
  · conv => whnf
    repeat' first
      | apply True.intro
      | (apply ptr_and; (· kernel_rfl); conv => whnf)
      | omega
      | (apply Or.inr; rfl)
      | (apply Or.inl; rfl)
      | (apply or_row; (· rfl); (· rfl); rfl)
      | (apply And.intro <;> conv => whnf)
      | fail
  conv => whnf
  have ha := fun h => gl_at (f := rowsA none) (l := V) (i := j) [] h
  have hm := fun h => hV.2 _ (getD_in (l := V) (i := j) [] h)
  have hts := fun h : j < V.length => take_snoc (l := V) (i := j) [] h
  obtain ⟨x, hx⟩ : ∃ x, x = V.getD j [] := ⟨_, rfl⟩
  rw [← hx] at ha hm hts
  by_cases hj2 : j < V.length
  · repeat' first
      | (refine WP.nrm (c := .region 11 _ _) 4002 (rows3W (V.take (j + 1))) ?_; (conv => whnf); refine And.intro (And.intro (by rw [hts (by omega)]; exact nle_snoc (nle_row _)) True.intro) ?_; (conv => whnf); refine And.intro (by kernel_rfl) (And.intro (by kernel_rfl) ?_))
      | apply WP.seq
      | (apply WP.region (E := eCopy) mixed tbl_ok; conv => whnf)
      | (apply WP.cond; conv => whnf)
      | (apply WP.skip; conv => whnf)
      | apply WP.block
      | (apply ex_at (ha (by omega)); conv => whnf)
      | (apply reg_and; (· kernel_rfl); conv => whnf)
      | (apply ex_and; (· with_reducible exact copyR_ok (hm (by omega)).1 (hm (by omega)).2); conv => whnf)
      | (apply ex_i64; (· omega); conv => whnf)
      | (apply ex_eq; conv => whnf)
      | (apply nd_gl; (· omega); conv => whnf)
      | (apply And.intro; (· first | with_reducible rfl | exact trivial | exact Or.inl ⟨rfl, rfl⟩ | exact Or.inr rfl | decide | omega | (apply Nat.le_of_ble_eq_true; rfl) | (dsimp only; omega) | (simp only [ints_len, gl_len, mp_len, List.length_cons, List.length_nil, List.length_drop, List.length_take]; omega)); conv => whnf)
      | (apply br_yes; (· omega); conv => whnf)
      | (rw [fz_rows]; conv => whnf)
      | fail
    refine Exists.intro (j + 1) (And.intro (And.intro (by omega) (by omega)) ?_)
    conv => whnf
    repeat' first
      | apply True.intro
      | (apply ptr_and; (· kernel_rfl); conv => whnf)
      | omega
      | (apply Or.inr; rfl)
      | (apply or_row; (· rfl); (· rfl); rfl)
      | (apply And.intro <;> conv => whnf)
      | fail
  repeat' first
    | apply WP.seq
    | (apply WP.region (E := eCopy) mixed tbl_ok; conv => whnf)
    | (apply WP.cond; conv => whnf)
    | (apply WP.ret; conv => whnf)
    | (apply WP.exit; conv => whnf)
    | (apply reg_and; (· kernel_rfl); conv => whnf)
    | (apply ex_eq; conv => whnf)
    | (apply And.intro; (· first | with_reducible rfl | exact trivial | exact Or.inl ⟨rfl, rfl⟩ | exact Or.inr rfl | decide | omega | (apply Nat.le_of_ble_eq_true; rfl) | (dsimp only; omega) | (simp only [ints_len, gl_len, mp_len, List.length_cons, List.length_nil, List.length_drop, List.length_take]; omega)); conv => whnf)
    | (apply br_no; (· omega); conv => whnf)
    | fail
  rw [List.take_of_length_le (by omega)]
  repeat' first
    | apply True.intro
    | (apply Or.inr; rfl)
    | (apply or_row; (· rfl); (· rfl); rfl)
    | (apply And.intro <;> conv => whnf)
    | fail
end Go.Proofs.Ytcngjnhdemjomaa.T
namespace Go.Proofs.Ytcngjnhdemjomaa.T
set_option linter.unusedSimpArgs false
set_option linter.unusedVariables false
open Go
set_option linter.unusedVariables false
set_option maxHeartbeats 8000000
set_option maxRecDepth 100000
/-- A view that fits. -/
structure VwG (V D L : Nat) (t : List Int) (K W : List (List (List Int))) : Prop where
  toks : ∀ x ∈ t, 0 ≤ x ∧ x < (V : Int)
  len : t.length ≤ 128
  num : (t.length = 0 ∧ K.length = 0 ∧ W.length = 0) ∨ (0 < t.length ∧ K.length = L ∧ W.length = L)
  keys : ∀ r ∈ K, r.length = t.length ∧ RowsN D r
  vals : ∀ r ∈ W, r.length = t.length ∧ RowsN D r
def eFits9 : Env := ⟨tbl, [], [], [], [(0, [2, 3, 3999, 3000, 3001, 3002, 3003, 3004, 4999, 4000, 4001, 4002]), (1, [2, 3, 11, 12, 13, 3999, 3000, 3001, 3002, 3003, 3004, 4999, 4000, 4001, 4002]), (2, [2, 3, 11, 12, 13, 14, 3999, 3000, 3001, 3002, 3003, 3004, 4999, 4000, 4001, 4002]), (3, [2, 3, 6, 11, 12, 13, 3999, 3000, 3001, 3002, 3003, 3004, 4999, 4000, 4001, 4002]), (4, [2, 3, 11, 12, 13, 24, 3999, 3000, 3001, 3002, 3003, 3004, 4999, 4000, 4001, 4002]), (5, [4]), (6, [2, 3, 11, 12, 13, 3999, 3000, 3001, 3002, 3003, 3004, 4999, 4000, 4001, 4002]), (7, [2, 3, 7, 3999, 3000, 3001, 3002, 3003, 3004, 4999, 4000, 4001, 4002]), (8, [2, 3, 7, 30, 3999, 3000, 3001, 3002, 3003, 3004, 4999, 4000, 4001, 4002]), (9, [4]), (10, [2, 3, 7, 62, 3999, 3000, 3001, 3002, 3003, 3004, 4999, 4000, 4001, 4002]), (11, [4]), (12, [2, 3, 7, 65, 66, 67, 3999, 3000, 3001, 3002, 3003, 3004, 4999, 4000, 4001, 4002]), (13, [2, 3, 7, 65, 66, 67, 68, 3999, 3000, 3001, 3002, 3003, 3004, 4999, 4000, 4001, 4002]), (14, [2, 3, 7, 8, 9, 65, 66, 67, 3999, 3000, 3001, 3002, 3003, 3004, 4999, 4000, 4001, 4002]), (15, [2, 3, 7, 65, 66, 67, 90, 3999, 3000, 3001, 3002, 3003, 3004, 4999, 4000, 4001, 4002]), (16, [4]), (17, [2, 3, 7, 65, 66, 67, 3999, 3000, 3001, 3002, 3003, 3004, 4999, 4000, 4001, 4002]), (18, [4])]⟩
theorem fits9_ok {n1 n2 n3 : Option Bool} {c : Cfg} {V D n H L s : Nat} {t : List Int} {K W : List (List (List Int))} (hc : CfgG c V D n H L s) (hg : VwG V D L t K W) : Impl Try.prog 62 [cfgA c, .agg [.sl none n1 1 false (ints .i64 t), .sl none n2 1 true (gl (rowsA none) K), .sl none n3 1 true (gl (rowsA none) W)]] (.b true) := by
  obtain ⟨c1, c2, c3, c4, c5⟩ := c
  obtain ⟨g1, g2, g3, g4, g5, g6⟩ := hc
  obtain ⟨rfl, h1⟩ := g1
  obtain ⟨rfl, h2⟩ := g2
  obtain ⟨rfl, h5⟩ := g5
  obtain ⟨v1, v2, v3, v4, v5⟩ := hg
  clear g3 g4 g6
  rw [cfgA_eq]
  refine impl_of (fn := Try.f62) tbl_ok (by kernel_rfl) (by kernel_rfl) rfl ⟨by simp [Try.f62], by decide⟩ rfl fun W0 => ?_
  repeat' first
    | apply WP.seq
    | (apply WP.region (E := eFits9) mixed tbl_ok; conv => whnf)
    | apply WP.block
    | (apply reg_and; (· kernel_rfl); conv => whnf)
    | (apply ex_ilen; conv => whnf)
    | fail
  refine WP.loopM [6, 13, 14, 24] (fun i : Nat => [(13, .i .i64 i)]) (fun i => i ≤ t.length) (fun i => t.length - i) 0 ?_
  conv => whnf
  refine And.intro (And.intro ?_ ?_) (fun i hi => ?_)
  · first | omega | trivial | skip
  · conv => whnf
    repeat' first
      | apply True.intro
      | (apply ptr_and; (· kernel_rfl); conv => whnf)
      | omega
      | (apply Or.inr; rfl)
      | (apply or_row; (· rfl); (· rfl); rfl)
      | (apply And.intro <;> conv => whnf)
      | fail
  conv => whnf
  have hx := fun h : i < t.length => v1 _ (getD_in (l := t) (i := i) 0 h)
  obtain ⟨x, hxe⟩ : ∃ x, x = t.getD i 0 := ⟨_, rfl⟩
  rw [← hxe] at hx
  by_cases hi2 : i < t.length
  · have hx2 := hx hi2
    repeat' first
      | apply WP.seq
      | (apply WP.region (E := eFits9) mixed tbl_ok; conv => whnf)
      | (apply WP.cond; conv => whnf)
      | (apply WP.skip; conv => whnf)
      | apply WP.block
      | (apply ex_ints; (· omega); rw [Int.toNat_natCast, ← hxe]; conv => whnf)
      | (apply reg_and; (· kernel_rfl); conv => whnf)
      | (apply ex_i64; (· omega); conv => whnf)
      | (apply ex_eq; conv => whnf)
      | (apply gd_br)
      | (apply nd_ints; (· omega); conv => whnf)
      | (apply And.intro; (· first | with_reducible rfl | exact trivial | exact Or.inl ⟨rfl, rfl⟩ | exact Or.inr rfl | decide | omega | (apply Nat.le_of_ble_eq_true; rfl) | (dsimp only; omega) | (simp only [ints_len, gl_len, mp_len, List.length_cons, List.length_nil, List.length_drop, List.length_take]; omega)); conv => whnf)
      | (apply br_yes; (· omega); conv => whnf)
      | (apply br_no; (· omega); conv => whnf)
      | fail
    refine Exists.intro (i + 1) (And.intro (And.intro (by omega) (by omega)) ?_)
    conv => whnf
    repeat' first
      | apply True.intro
      | (apply ptr_and; (· kernel_rfl); conv => whnf)
      | omega
      | (apply Or.inr; rfl)
      | (apply or_row; (· rfl); (· rfl); rfl)
      | (apply And.intro <;> conv => whnf)
      | fail
  repeat' first
    | apply WP.seq
    | (apply WP.region (E := eFits9) mixed tbl_ok; conv => whnf)
    | (apply WP.cond; conv => whnf)
    | (apply WP.skip; conv => whnf)
    | (apply WP.ret; conv => whnf)
    | (apply WP.exit; conv => whnf)
    | apply WP.block
    | (apply reg_and; (· kernel_rfl); conv => whnf)
    | (apply ex_ilen; conv => whnf)
    | (apply ex_glen; conv => whnf)
    | (apply ex_eq; conv => whnf)
    | (apply gd_br)
    | (apply And.intro; (· first | with_reducible rfl | exact trivial | exact Or.inl ⟨rfl, rfl⟩ | exact Or.inr rfl | decide | omega | (apply Nat.le_of_ble_eq_true; rfl) | (dsimp only; omega) | (simp only [ints_len, gl_len, mp_len, List.length_cons, List.length_nil, List.length_drop, List.length_take]; omega)); conv => whnf)
    | apply br_not
    | (apply br_yes; (· omega); conv => whnf)
    | (apply br_no; (· omega); conv => whnf)
    | (apply br_dec <;> intro hbr <;> (first | rw [decide_eq_true hbr] | rw [decide_eq_false hbr] | skip) <;> conv => whnf)
    | fail
  · exact beq_iff_eq.2 (by omega)
  refine WP.loopM [8, 9, 67, 68, 90] (fun j : Nat => [(67, .i .i64 j)]) (fun j => j ≤ K.length) (fun j => K.length - j) 0 ?_
  conv => whnf
  refine And.intro (And.intro ?_ ?_) (fun j hj => ?_)
  · first | omega | trivial | skip
  · conv => whnf
    repeat' first
      | apply True.intro
      | (apply ptr_and; (· kernel_rfl); conv => whnf)
      | omega
      | (apply Or.inr; rfl)
      | (apply or_row; (· rfl); (· rfl); rfl)
      | (apply And.intro <;> conv => whnf)
      | fail
  conv => whnf
  have ha := fun h => gl_at (f := rowsA none) (l := K) (i := j) [] h
  have hb := fun h => gl_at (f := rowsA none) (l := W) (i := j) [] h
  have hka := fun h => v4 _ (getD_in (l := K) (i := j) [] h)
  have hkb := fun h => v5 _ (getD_in (l := W) (i := j) [] h)
  obtain ⟨x, hx⟩ : ∃ x, x = K.getD j [] := ⟨_, rfl⟩
  obtain ⟨y, hy⟩ : ∃ y, y = W.getD j [] := ⟨_, rfl⟩
  rw [← hx] at ha hka
  rw [← hy] at hb hkb
  by_cases hj2 : j < K.length
  · have hk := hka hj2
    have hl := hkb (by omega)
    have ex : rowsC t.length D x := ⟨fun r hr => by rw [(hk.2 r hr).1], by rw [hk.1]⟩
    have ey : rowsC t.length D y := ⟨fun r hr => by rw [(hl.2 r hr).1], by rw [hl.1]⟩
    have r1 := fun {nl : Option Bool} => rows9_ok (nl := nl) (n := t.length) (d := D) (l := x) (by omega)
    have r2 := fun {nl : Option Bool} => rows9_ok (nl := nl) (n := t.length) (d := D) (l := y) (by omega)
    rw [decide_eq_true ex] at r1
    rw [decide_eq_true ey] at r2
    repeat' first
      | apply WP.seq
      | (apply WP.region (E := eFits9) mixed tbl_ok; conv => whnf)
      | (apply WP.cond; conv => whnf)
      | (apply WP.skip; conv => whnf)
      | apply WP.block
      | (apply ex_at (ha (by omega)); conv => whnf)
      | (apply ex_at (hb (by omega)); conv => whnf)
      | (apply reg_and; (· kernel_rfl); conv => whnf)
      | (apply ex_and; (· with_reducible exact r1); conv => whnf)
      | (apply ex_and; (· with_reducible exact r2); conv => whnf)
      | (apply ex_i64; (· omega); conv => whnf)
      | (apply ex_eq; conv => whnf)
      | ((with_reducible apply gd_nt); conv => whnf)
      | (apply nd_gl; (· omega); conv => whnf)
      | (apply And.intro; (· first | with_reducible rfl | exact trivial | exact Or.inl ⟨rfl, rfl⟩ | exact Or.inr rfl | decide | omega | (apply Nat.le_of_ble_eq_true; rfl) | (dsimp only; omega) | (simp only [ints_len, gl_len, mp_len, List.length_cons, List.length_nil, List.length_drop, List.length_take]; omega)); conv => whnf)
      | apply br_not
      | (apply br_t; conv => whnf)
      | (apply br_yes; (· omega); conv => whnf)
      | (rw [fz_rows]; conv => whnf)
      | fail
    refine Exists.intro (j + 1) (And.intro (And.intro (by omega) (by omega)) ?_)
    conv => whnf
    repeat' first
      | apply True.intro
      | (apply ptr_and; (· kernel_rfl); conv => whnf)
      | omega
      | (apply Or.inr; rfl)
      | (apply or_row; (· rfl); (· rfl); rfl)
      | (apply And.intro <;> conv => whnf)
      | fail
  repeat' first
    | apply WP.seq
    | (apply WP.region (E := eFits9) mixed tbl_ok; conv => whnf)
    | (apply WP.cond; conv => whnf)
    | (apply WP.ret; conv => whnf)
    | (apply WP.exit; conv => whnf)
    | (apply reg_and; (· kernel_rfl); conv => whnf)
    | (apply ex_eq; conv => whnf)
    | (apply And.intro; (· first | with_reducible rfl | exact trivial | exact Or.inl ⟨rfl, rfl⟩ | exact Or.inr rfl | decide | omega | (apply Nat.le_of_ble_eq_true; rfl) | (dsimp only; omega) | (simp only [ints_len, gl_len, mp_len, List.length_cons, List.length_nil, List.length_drop, List.length_take]; omega)); conv => whnf)
    | (apply br_no; (· omega); conv => whnf)
    | fail
end Go.Proofs.Ytcngjnhdemjomaa.T
namespace Go.Proofs.Ytcngjnhdemjomaa.T
set_option linter.unusedSimpArgs false
set_option linter.unusedVariables false
open Go
set_option linter.unusedVariables false
set_option maxHeartbeats 8000000
set_option maxRecDepth 100000
theorem fz_rowsW (l : List (List (List Int))) : AV.fzL (gl rowsW l) = gl (rowsA none) l := by
  rw [AV.fzL_map]; unfold gl; rw [List.map_map]
  refine List.map_congr_left fun r _ => ?_
  show AV.sl none none 1 true (AV.fzL (gl (rowA (some 0)) r)) = _
  rw [fz_rows]
theorem nle_zero {m : Nat} {nl : Option Bool} {Q : List (List (List Int))} (hl : m = Q.length) (hq : ∀ r ∈ Q, r = []) : NLe (.sl (some 0) nl 1 true (List.replicate m (.sl (some 0) (some true) 1 true []))) (rows3W Q) := by
  subst hl
  refine .sl (.inl rfl) (by rw [gl_len, List.length_replicate]) fun j e e' h1 h2 => ?_
  have hj : j < Q.length := by have := lt_of_get h1; rwa [List.length_replicate] at this
  rw [List.getElem?_replicate, if_pos hj] at h1
  cases h1
  unfold gl at h2
  rw [List.getElem?_map, List.getElem?_eq_getElem hj] at h2
  cases h2
  rw [hq _ (List.getElem_mem hj)]
  exact .sl (.inl rfl) rfl fun j e e' h => by cases h
theorem nle_putW {K : List (List (List Int))} {n s2 s3 : Nat} {nl nl2 nl3 : Option Bool} {r : List (List Int)} {x : List Int} (hn : n < K.length) : NLe (.sl (some 0) nl 1 true (((gl rowsW K).set n .any).set n (.sl (some s2) nl2 1 true (gl (rowA (some 0)) r ++ [.sl (some s3) nl3 1 false (ints .i32 x)])))) (rows3W (K.set n (r ++ [x]))) := by
  refine .sl (.inl rfl) (by rw [gl_len, List.length_set, List.length_set, List.length_set, gl_len]) fun j e e' h1 h2 => ?_
  unfold gl at h2
  rw [List.getElem?_map, List.getElem?_set] at h2
  by_cases hj : n = j
  · subst hj
    rw [List.getElem?_set_self (by rw [List.length_set, gl_len]; exact hn)] at h1
    cases h1
    rw [if_pos rfl, if_pos hn] at h2
    cases h2
    exact nle_snoc (nle_row _)
  · rw [if_neg hj] at h2
    rw [List.getElem?_set_ne hj, List.getElem?_set_ne hj] at h1
    unfold gl at h1
    rw [List.getElem?_map] at h1
    rw [h1] at h2; cases h2; exact .refl _
/-- What is kept of tokens: nothing of none. -/
def vK (D H s : Nat) (w : Wts) (t : List Int) : List (List (List Int)) := if t.length = 0 then [] else sKeys D H s w t
def vV (D H s : Nat) (w : Wts) (t : List Int) : List (List (List Int)) := if t.length = 0 then [] else sVals D H s w t
theorem kF_good {V D H L s : Nat} {w : Wts} {t : List Int} (hg : WtsG V D H L w) {l i : Nat} (hl : l < L) (hi : i < t.length) : (kF D H s w (fB D w t) l i).length = D ∧ I32s (kF D H s w (fB D w t) l i) := by
  unfold kF
  rw [List.getElem?_eq_getElem (by rw [hg.layers]; exact hl)]
  exact ⟨sApply_len _ _ _ _, sApply_i32 _ _ _ _⟩
theorem vF_good {V D H L s : Nat} {w : Wts} {t : List Int} (hg : WtsG V D H L w) {l i : Nat} (hl : l < L) (hi : i < t.length) : (vF D H s w (fB D w t) l i).length = D ∧ I32s (vF D H s w (fB D w t) l i) := by
  unfold vF
  rw [List.getElem?_eq_getElem (by rw [hg.layers]; exact hl)]
  exact ⟨sApply_len _ _ _ _, sApply_i32 _ _ _ _⟩
theorem vw_good {V D H L s : Nat} {w : Wts} {t : List Int} (hg : WtsG V D H L w) (ht : ∀ x ∈ t, 0 ≤ x ∧ x < (V : Int)) (hl : t.length ≤ 128) : VwG V D L t (vK D H s w t) (vV D H s w t) := by
  refine ⟨ht, hl, ?_, ?_, ?_⟩
  · unfold vK vV sKeys sVals
    by_cases h : t.length = 0
    · rw [if_pos h, if_pos h]; exact .inl ⟨h, rfl, rfl⟩
    · rw [if_neg h, if_neg h, mp_len, mp_len, hg.layers]; exact .inr ⟨by omega, rfl, rfl⟩
  · unfold vK sKeys
    intro r hr
    split at hr
    · cases hr
    · obtain ⟨l, hl1, rfl⟩ := List.mem_map.1 hr
      rw [List.mem_range, hg.layers] at hl1
      exact ⟨mp_len _ _, mp_rowsN fun j hj => kF_good hg hl1 hj⟩
  · unfold vV sVals
    intro r hr
    split at hr
    · cases hr
    · obtain ⟨l, hl1, rfl⟩ := List.mem_map.1 hr
      rw [List.mem_range, hg.layers] at hl1
      exact ⟨mp_len _ _, mp_rowsN fun j hj => vF_good hg hl1 hj⟩
def eFeedE : Env := ⟨tbl, [], [], [], [(0, [3, 4, 5, 6, 8, 5999, 5000, 5001, 5002, 5003, 5004, 6999, 6000, 6001, 6002, 6003, 6004, 6005, 6006, 6007, 7999, 7000, 7001, 7002, 9999, 9000, 9001, 9002]), (1, [3, 4, 5, 6, 8, 11, 5999, 5000, 5001, 5002, 5003, 5004, 6999, 6000, 6001, 6002, 6003, 6004, 6005, 6006, 6007, 7999, 7000, 7001, 7002, 9999, 9000, 9001, 9002]), (2, [3, 4, 5, 6, 8, 11, 23, 5999, 5000, 5001, 5002, 5003, 5004, 6999, 6000, 6001, 6002, 6003, 6004, 6005, 6006, 6007, 7999, 7000, 7001, 7002, 9999, 9000, 9001, 9002]), (3, [8, 9, 10, 9999, 9000, 9001, 9002]), (4, [3, 4, 5, 6, 8, 26, 5999, 5000, 5001, 5002, 5003, 5004, 6999, 6000, 6001, 6002, 6003, 6004, 6005, 6006, 6007, 7999, 7000, 7001, 7002, 9999, 9000, 9001, 9002]), (5, [8, 9, 10, 9999, 9000, 9001, 9002]), (6, [3, 4, 5, 6, 8, 32, 5999, 5000, 5001, 5002, 5003, 5004, 6999, 6000, 6001, 6002, 6003, 6004, 6005, 6006, 6007, 7999, 7000, 7001, 7002, 9999, 9000, 9001, 9002]), (7, [8, 9, 10, 9999, 9000, 9001, 9002]), (8, [3, 4, 5, 6, 8, 38, 5999, 5000, 5001, 5002, 5003, 5004, 6999, 6000, 6001, 6002, 6003, 6004, 6005, 6006, 6007, 7999, 7000, 7001, 7002, 9999, 9000, 9001, 9002]), (9, [8, 9, 10, 9999, 9000, 9001, 9002]), (10, [3, 4, 5, 6, 8, 12, 5999, 5000, 5001, 5002, 5003, 5004, 6999, 6000, 6001, 6002, 6003, 6004, 6005, 6006, 6007, 7999, 7000, 7001, 7002, 9999, 9000, 9001, 9002, 13999, 13000, 13001, 13002]), (11, [3, 4, 5, 6, 8, 12, 53, 5999, 5000, 5001, 5002, 5003, 5004, 6999, 6000, 6001, 6002, 6003, 6004, 6005, 6006, 6007, 7999, 7000, 7001, 7002, 9999, 9000, 9001, 9002, 13999, 13000, 13001, 13002]), (12, [3, 4, 5, 6, 8, 12, 5999, 5000, 5001, 5002, 5003, 5004, 6999, 6000, 6001, 6002, 6003, 6004, 6005, 6006, 6007, 7999, 7000, 7001, 7002, 9999, 9000, 9001, 9002, 13999, 13000, 13001, 13002]), (13, [3, 4, 5, 8, 12, 13, 5999, 5000, 5001, 5002, 5003, 5004, 6999, 6000, 6001, 6002, 6003, 6004, 6005, 6006, 6007, 9999, 9000, 9001, 9002, 13999, 13000, 13001, 13002]), (14, [3, 4, 5, 8, 12, 13, 71, 72, 73, 5999, 5000, 5001, 5002, 5003, 5004, 6999, 6000, 6001, 6002, 6003, 6004, 6005, 6006, 6007, 9999, 9000, 9001, 9002, 13999, 13000, 13001, 13002]), (15, [3, 4, 5, 8, 12, 13, 71, 72, 73, 74, 5999, 5000, 5001, 5002, 5003, 5004, 6999, 6000, 6001, 6002, 6003, 6004, 6005, 6006, 6007, 9999, 9000, 9001, 9002, 13999, 13000, 13001, 13002]), (16, [3, 4, 5, 8, 12, 13, 14, 15, 71, 72, 73, 5999, 5000, 5001, 5002, 5003, 5004, 6999, 6000, 6001, 6002, 6003, 6004, 6005, 6006, 6007, 9999, 9000, 9001, 9002, 13999, 13000, 13001, 13002, 16999, 16000, 16001, 16002, 16003, 16004, 16005, 16006, 16007, 16008, 16009, 16010, 16011, 16012, 16013, 16014, 16015, 16016, 16017, 16018, 16019]), (17, [3, 4, 5, 8, 12, 14, 16, 17, 18, 71, 72, 73, 5999, 5000, 5001, 5002, 5003, 5004, 6999, 6000, 6001, 6002, 6003, 6004, 6005, 6006, 6007, 9999, 9000, 9001, 9002, 13999, 13000, 13001, 13002]), (18, [3, 4, 5, 8, 12, 16, 71, 72, 73, 5999, 5000, 5001, 5002, 5003, 5004, 6999, 6000, 6001, 6002, 6003, 6004, 6005, 6006, 6007, 9999, 9000, 9001, 9002, 13999, 13000, 13001, 13002]), (19, [3, 4, 5, 8, 12, 13, 71, 72, 73, 5999, 5000, 5001, 5002, 5003, 5004, 6999, 6000, 6001, 6002, 6003, 6004, 6005, 6006, 6007, 9999, 9000, 9001, 9002, 13999, 13000, 13001, 13002]), (20, [3, 4, 5, 8, 12, 13, 71, 72, 73, 5999, 5000, 5001, 5002, 5003, 5004, 6999, 6000, 6001, 6002, 6003, 6004, 6005, 6006, 6007, 9999, 9000, 9001, 9002, 13999, 13000, 13001, 13002]), (21, [5, 8, 12, 13, 6999, 6000, 6001, 6002, 6003, 6004, 6005, 6006, 6007, 9999, 9000, 9001, 9002, 13999, 13000, 13001, 13002]), (22, [8, 9, 10, 9999, 9000, 9001, 9002])]⟩
theorem feed_bad {n1 n2 n3 : Option Bool} {c : Cfg} {V D n H L s : Nat} {w : Wts} {t : List Int} {K W : List (List (List Int))} {q : Int} (hc : CfgG c V D n H L s) (hg : WtsG V D H L w) (hv : VwG V D L t K W) (hl : t.length ≤ 127) (hq : q < 0 ∨ (V : Int) ≤ q) : Impl Try.prog 34 [cfgA c, wtsA none none w, .agg [.sl none n1 1 false (ints .i64 t), .sl none n2 1 true (gl (rowsA none) K), .sl none n3 1 true (gl (rowsA none) W)], .i .i64 q] (.tup [viewW [] [] [], rowA (some 0) [], .i .i64 7]) := by
  have hck := mcheck_ok c w (by have := hg.layers; have := hc.gl; omega)
  rw [chkW_of hc hg] at hck
  have hft := fun {n1 n2 n3 : Option Bool} => fits9_ok (n1 := n1) (n2 := n2) (n3 := n3) hc hv
  have hV := hc.gv.1
  clear hv hg
  refine impl_of (fn := Try.f34) tbl_ok (by kernel_rfl) (by kernel_rfl) rfl ⟨by simp [Try.f34], by decide⟩ rfl fun W0 => ?_
  repeat' first
    | apply WP.seq
    | (apply WP.region (E := eFeedE) mixed tbl_ok; conv => whnf)
    | (apply WP.cond; conv => whnf)
    | (apply WP.skip; conv => whnf)
    | (apply WP.ret; conv => whnf)
    | apply WP.block
    | (rw [fz_blks]; conv => whnf)
    | (rw [fz_rows3]; conv => whnf)
    | (apply reg_and; (· kernel_rfl); conv => whnf)
    | (apply ex_and; (· with_reducible exact hck); conv => whnf)
    | (apply ex_and; (· with_reducible exact hft); conv => whnf)
    | (apply ex_ilen; conv => whnf)
    | (apply ex_eq; conv => whnf)
    | ((with_reducible apply gd_t); conv => whnf)
    | ((with_reducible apply gd_f); conv => whnf)
    | (apply gd_br)
    | (apply nodup_and; (· exact of_decide_eq_true (by kernel_rfl)); conv => whnf)
    | (apply And.intro; (· first | with_reducible rfl | exact trivial | exact Or.inl ⟨rfl, rfl⟩ | exact Or.inr rfl | decide | omega | (apply Nat.le_of_ble_eq_true; rfl) | (dsimp only; omega) | (simp only [ints_len, gl_len, mp_len, List.length_cons, List.length_nil, List.length_drop, List.length_take]; omega)); conv => whnf)
    | apply br_not
    | (apply br_t; conv => whnf)
    | (apply br_yes; (· omega); conv => whnf)
    | (apply br_no; (· omega); conv => whnf)
    | (apply br_dec <;> intro hbr <;> (first | rw [decide_eq_true hbr] | rw [decide_eq_false hbr] | skip) <;> conv => whnf)
    | fail
  repeat' first
    | apply True.intro
    | exact Int.NonNeg.mk _
    | (apply Or.inl; rfl)
    | (apply or_row; (· rfl); (· rfl); rfl)
    | (apply Or.inr; apply And.intro; (· rfl); rfl)
    | (apply And.intro <;> conv => whnf)
    | (apply Nat.le_of_ble_eq_true; rfl)
    | fail
theorem feed_big {n1 n2 n3 : Option Bool} {c : Cfg} {V D n H L s : Nat} {w : Wts} {t : List Int} {K W : List (List (List Int))} {q : Int} (hc : CfgG c V D n H L s) (hg : WtsG V D H L w) (hv : VwG V D L t K W) (hl : 128 ≤ t.length) : Impl Try.prog 34 [cfgA c, wtsA none none w, .agg [.sl none n1 1 false (ints .i64 t), .sl none n2 1 true (gl (rowsA none) K), .sl none n3 1 true (gl (rowsA none) W)], .i .i64 q] (.tup [viewW [] [] [], rowA (some 0) [], .i .i64 2]) := by
  have hck := mcheck_ok c w (by have := hg.layers; have := hc.gl; omega)
  rw [chkW_of hc hg] at hck
  have hft := fun {n1 n2 n3 : Option Bool} => fits9_ok (n1 := n1) (n2 := n2) (n3 := n3) hc hv
  clear hv hg
  refine impl_of (fn := Try.f34) tbl_ok (by kernel_rfl) (by kernel_rfl) rfl ⟨by simp [Try.f34], by decide⟩ rfl fun W0 => ?_
  repeat' first
    | apply WP.seq
    | (apply WP.region (E := eFeedE) mixed tbl_ok; conv => whnf)
    | (apply WP.cond; conv => whnf)
    | (apply WP.skip; conv => whnf)
    | (apply WP.ret; conv => whnf)
    | apply WP.block
    | (rw [fz_blks]; conv => whnf)
    | (rw [fz_rows3]; conv => whnf)
    | (apply reg_and; (· kernel_rfl); conv => whnf)
    | (apply ex_and; (· with_reducible exact hck); conv => whnf)
    | (apply ex_and; (· with_reducible exact hft); conv => whnf)
    | (apply ex_ilen; conv => whnf)
    | (apply ex_eq; conv => whnf)
    | (apply nodup_and; (· exact of_decide_eq_true (by kernel_rfl)); conv => whnf)
    | (apply And.intro; (· first | with_reducible rfl | exact trivial | exact Or.inl ⟨rfl, rfl⟩ | exact Or.inr rfl | decide | omega | (apply Nat.le_of_ble_eq_true; rfl) | (dsimp only; omega) | (simp only [ints_len, gl_len, mp_len, List.length_cons, List.length_nil, List.length_drop, List.length_take]; omega)); conv => whnf)
    | apply br_not
    | (apply br_t; conv => whnf)
    | (apply br_yes; (· omega); conv => whnf)
    | fail
  repeat' first
    | apply True.intro
    | exact Int.NonNeg.mk _
    | (apply Or.inl; rfl)
    | (apply or_row; (· rfl); (· rfl); rfl)
    | (apply Or.inr; apply And.intro; (· rfl); rfl)
    | (apply And.intro <;> conv => whnf)
    | (apply Nat.le_of_ble_eq_true; rfl)
    | fail
end Go.Proofs.Ytcngjnhdemjomaa.T
namespace Go.Proofs.Ytcngjnhdemjomaa.T
set_option linter.unusedSimpArgs false
set_option linter.unusedVariables false
open Go
set_option linter.unusedVariables false
set_option maxHeartbeats 8000000
set_option maxRecDepth 100000
def eLayerN : Env := ⟨tbl, [], [58, 59, 62, 63, 119], [99], [(0, [2, 3, 4, 6, 7, 8, 4999, 4000, 4001, 4002, 4003, 4004, 5999, 5000, 5001, 5002, 5003, 5004, 5005, 5006, 5007, 5008, 5009, 5010, 5011, 5012, 5013, 5014, 5015, 5016, 5017, 5018, 5019]), (1, [2, 3, 4, 6, 7, 8, 29, 30, 31, 4999, 4000, 4001, 4002, 4003, 4004, 5999, 5000, 5001, 5002, 5003, 5004, 5005, 5006, 5007, 5008, 5009, 5010, 5011, 5012, 5013, 5014, 5015, 5016, 5017, 5018, 5019]), (2, [2, 3, 4, 6, 7, 8, 29, 30, 31, 32, 4999, 4000, 4001, 4002, 4003, 4004, 5999, 5000, 5001, 5002, 5003, 5004, 5005, 5006, 5007, 5008, 5009, 5010, 5011, 5012, 5013, 5014, 5015, 5016, 5017, 5018, 5019]), (3, [2, 3, 4, 6, 7, 8, 10, 29, 30, 31, 4999, 4000, 4001, 4002, 4003, 4004, 5999, 5000, 5001, 5002, 5003, 5004, 5005, 5006, 5007, 5008, 5009, 5010, 5011, 5012, 5013, 5014, 5015, 5016, 5017, 5018, 5019]), (4, [2, 3, 4, 6, 7, 8, 11, 29, 30, 31, 4999, 4000, 4001, 4002, 4003, 4004, 5999, 5000, 5001, 5002, 5003, 5004, 5005, 5006, 5007, 5008, 5009, 5010, 5011, 5012, 5013, 5014, 5015, 5016, 5017, 5018, 5019]), (5, [2, 3, 4, 6, 7, 8, 11, 13, 29, 30, 31, 4999, 4000, 4001, 4002, 4003, 4004, 5999, 5000, 5001, 5002, 5003, 5004, 5005, 5006, 5007, 5008, 5009, 5010, 5011, 5012, 5013, 5014, 5015, 5016, 5017, 5018, 5019]), (6, [2, 3, 4, 6, 7, 8, 13, 15, 29, 30, 31, 4999, 4000, 4001, 4002, 4003, 4004, 5999, 5000, 5001, 5002, 5003, 5004, 5005, 5006, 5007, 5008, 5009, 5010, 5011, 5012, 5013, 5014, 5015, 5016, 5017, 5018, 5019]), (7, [2, 3, 4, 6, 7, 8, 29, 30, 31, 4999, 4000, 4001, 4002, 4003, 4004, 5999, 5000, 5001, 5002, 5003, 5004, 5005, 5006, 5007, 5008, 5009, 5010, 5011, 5012, 5013, 5014, 5015, 5016, 5017, 5018, 5019]), (8, [2, 3, 4, 6, 7, 8, 29, 30, 31, 4999, 4000, 4001, 4002, 4003, 4004, 5999, 5000, 5001, 5002, 5003, 5004, 5005, 5006, 5007, 5008, 5009, 5010, 5011, 5012, 5013, 5014, 5015, 5016, 5017, 5018, 5019]), (9, [3, 4, 6, 7, 8, 65, 66, 67, 4999, 4000, 4001, 4002, 4003, 4004, 5999, 5000, 5001, 5002, 5003, 5004, 5005, 5006, 5007, 5008, 5009, 5010, 5011, 5012, 5013, 5014, 5015, 5016, 5017, 5018, 5019]), (10, [3, 4, 6, 7, 8, 65, 66, 67, 68, 4999, 4000, 4001, 4002, 4003, 4004, 5999, 5000, 5001, 5002, 5003, 5004, 5005, 5006, 5007, 5008, 5009, 5010, 5011, 5012, 5013, 5014, 5015, 5016, 5017, 5018, 5019]), (11, [3, 4, 6, 7, 8, 17, 18, 65, 66, 67, 4999, 4000, 4001, 4002, 4003, 4004, 5999, 5000, 5001, 5002, 5003, 5004, 5005, 5006, 5007, 5008, 5009, 5010, 5011, 5012, 5013, 5014, 5015, 5016, 5017, 5018, 5019]), (12, [3, 4, 6, 7, 8, 17, 18, 19, 65, 66, 67, 4999, 4000, 4001, 4002, 4003, 4004, 5999, 5000, 5001, 5002, 5003, 5004, 5005, 5006, 5007, 5008, 5009, 5010, 5011, 5012, 5013, 5014, 5015, 5016, 5017, 5018, 5019]), (13, [3, 4, 6, 7, 8, 17, 18, 21, 65, 66, 67, 4999, 4000, 4001, 4002, 4003, 4004, 5999, 5000, 5001, 5002, 5003, 5004, 5005, 5006, 5007, 5008, 5009, 5010, 5011, 5012, 5013, 5014, 5015, 5016, 5017, 5018, 5019]), (14, [3, 4, 6, 7, 8, 18, 23, 65, 66, 67, 4999, 4000, 4001, 4002, 4003, 4004, 5999, 5000, 5001, 5002, 5003, 5004, 5005, 5006, 5007, 5008, 5009, 5010, 5011, 5012, 5013, 5014, 5015, 5016, 5017, 5018, 5019]), (15, [3, 4, 6, 7, 8, 18, 25, 65, 66, 67, 4999, 4000, 4001, 4002, 4003, 4004, 5999, 5000, 5001, 5002, 5003, 5004, 5005, 5006, 5007, 5008, 5009, 5010, 5011, 5012, 5013, 5014, 5015, 5016, 5017, 5018, 5019]), (16, [3, 4, 6, 7, 8, 27, 65, 66, 67, 4999, 4000, 4001, 4002, 4003, 4004, 5999, 5000, 5001, 5002, 5003, 5004, 5005, 5006, 5007, 5008, 5009, 5010, 5011, 5012, 5013, 5014, 5015, 5016, 5017, 5018, 5019]), (17, [3, 4, 6, 7, 8, 65, 66, 67, 4999, 4000, 4001, 4002, 4003, 4004, 5999, 5000, 5001, 5002, 5003, 5004, 5005, 5006, 5007, 5008, 5009, 5010, 5011, 5012, 5013, 5014, 5015, 5016, 5017, 5018, 5019]), (18, [3, 4, 6, 7, 8, 65, 66, 67, 4999, 4000, 4001, 4002, 4003, 4004, 5999, 5000, 5001, 5002, 5003, 5004, 5005, 5006, 5007, 5008, 5009, 5010, 5011, 5012, 5013, 5014, 5015, 5016, 5017, 5018, 5019]), (19, [6, 7, 8]), (1014, [3, 4, 6, 7, 8, 18, 65, 66, 67, 4000, 4001, 4002, 4003, 4004, 4999, 5000, 5001, 5002, 5003, 5004, 5005, 5006, 5007, 5008, 5009, 5010, 5011, 5012, 5013, 5014, 5015, 5016, 5017, 5018, 5019, 5999]), (2014, [])]⟩
theorem nle_mp {s s0 : Nat} {nl nl2 : Option Bool} {n : Nat} {F : Nat → List Int} : NLe (.sl (some s) nl 1 true (gl (rowA (some 0)) (mp n F) ++ [.sl (some s0) nl2 1 false (ints .i32 (F n))])) (rowsW (mp (n + 1) F)) := by
  rw [mp_succ]; exact nle_snoc (nle_row _)
theorem layer_okN {nr : Option Bool} {c : Cfg} {D H n s m : Nat} {b : Blk} {F : Nat → List Int} (hc : c.heads = n) (hn : 1 ≤ n ∧ n ≤ 4) (hns : n * s = D) (hD : 0 < D ∧ D ≤ 32) (hH : 0 < H ∧ H ≤ 128) (hb : BlkG D H b) (hm : 0 < m ∧ m ≤ 128) (hF : ∀ i, i < m → (F i).length = D ∧ I32s (F i)) : Impl Try.prog 45 [cfgA c, blkA none b, .sl none nr 1 true (gl (rowA none) (mp m F))] (.tup [.sl (some 0) none 1 true (gl (rowA none) (mp m (lx D H s b F))), rowsW (mp m fun i => sK D b (F i)), rowsW (mp m fun i => sV D b (F i))]) := by
  obtain ⟨s1, s2⟩ := hb.first
  have hr : RowsN D (mp m F) := mp_rowsN hF
  have hml : (mp m F).length = m := mp_len _ _
  refine impl_of (fn := Try.f45) tbl_ok (by kernel_rfl) (by kernel_rfl) rfl ⟨by simp [Try.f45], by decide⟩ rfl fun W0 => ?_
  repeat' first
    | apply WP.seq
    | (apply WP.region (E := eLayerN) mixed tbl_ok; conv => whnf)
    | apply WP.block
    | (apply reg_and; (· kernel_rfl); conv => whnf)
    | (apply ex_glen; conv => whnf)
    | fail
  refine WP.loopM [7, 8, 10, 11, 12, 13, 14, 15, 16, 31, 32, 35, 42, 49] (fun i : Nat => [(7, rowsW (mp i fun i => sK D b (F i))), (8, rowsW (mp i fun i => sV D b (F i))), (31, .i .i64 i)]) (fun i => i ≤ m) (fun i => m - i) 0 ?_
  conv => whnf
  refine And.intro (And.intro ?_ ?_) (fun i hi => ?_)
  · first | omega | trivial | skip
  · conv => whnf
    repeat' first
      | apply True.intro
      | (apply ptr_and; (· kernel_rfl); conv => whnf)
      | omega
      | (apply Or.inr; rfl)
      | (apply Or.inl; rfl)
      | (apply or_row; (· rfl); (· rfl); rfl)
      | (apply Or.inr; apply And.intro; (· rfl); rfl)
      | (apply And.intro <;> conv => whnf)
      | fail
  conv => whnf
  have hg : i < m → (mp m F).getD ((i : Int).toNat) [] = F i := fun hi => by rw [Int.toNat_natCast, mp_get hi]
  by_cases hi2 : i < m
  · have ha : (gl (rowA none) (mp m F))[((i : Nat) : Int).toNat]? = some (rowA none (F i)) := by
      rw [Int.toNat_natCast]; unfold gl mp; rw [List.getElem?_map, List.getElem?_map, List.getElem?_range hi2]; rfl
    obtain ⟨f1, f2⟩ := hF i hi2
    repeat' first
      | (refine WP.nrm (c := .region 8 _ _) 7 (rowsW (mp (i + 1) fun i => sK D b (F i))) ?_; (conv => whnf); refine And.intro (And.intro (by exact nle_mp) True.intro) ?_; (conv => whnf); refine And.intro (by kernel_rfl) (And.intro (by kernel_rfl) ?_))
      | (refine WP.nrm (c := .region 8 _ _) 8 (rowsW (mp (i + 1) fun i => sV D b (F i))) ?_; (conv => whnf); refine And.intro (And.intro (by exact nle_mp) True.intro) ?_; (conv => whnf); refine And.intro (by kernel_rfl) (And.intro (by kernel_rfl) ?_))
      | apply WP.seq
      | (apply WP.region (E := eLayerN) mixed tbl_ok; conv => whnf)
      | (apply WP.cond; conv => whnf)
      | (apply WP.skip; conv => whnf)
      | apply WP.block
      | (apply ex_at ha; conv => whnf)
      | (apply reg_and; (· kernel_rfl); conv => whnf)
      | (apply ex_and; (· with_reducible exact norm_ok (by omega) (by omega) (by omega) (by assumption) s2); conv => whnf)
      | (apply ex_and; (· with_reducible exact apply_okM hb.k (by rw [sNorm_len]; omega) (sNorm_i32 _ _)); conv => whnf)
      | (apply ex_and; (· with_reducible exact apply_okM hb.v (by rw [sNorm_len]; omega) (sNorm_i32 _ _)); conv => whnf)
      | (apply ex_i64; (· omega); conv => whnf)
      | (apply ex_eq; conv => whnf)
      | (apply nd_gl; (· omega); conv => whnf)
      | (apply And.intro; (· first | with_reducible rfl | exact trivial | exact Or.inl ⟨rfl, rfl⟩ | exact Or.inr rfl | decide | omega | (apply Nat.le_of_ble_eq_true; rfl) | (dsimp only; omega) | (simp only [ints_len, gl_len, mp_len, List.length_cons, List.length_nil, List.length_drop, List.length_take]; omega)); conv => whnf)
      | (apply br_yes; (· omega); conv => whnf)
      | fail
    refine Exists.intro (i + 1) (And.intro (And.intro ?_ ?_) ?_)
    · first | omega | skip
    · first | omega | skip
    conv => whnf
    repeat' first
      | apply True.intro
      | (apply ptr_and; (· kernel_rfl); conv => whnf)
      | omega
      | (apply Or.inr; rfl)
      | (apply or_row; (· rfl); (· rfl); rfl)
      | (apply And.intro <;> conv => whnf)
      | fail
  have e : i = m := by omega
  clear hg hi hi2
  subst e
  repeat' first
    | apply WP.seq
    | (apply WP.region (E := eLayerN) mixed tbl_ok; conv => whnf)
    | (apply WP.cond; conv => whnf)
    | (apply WP.exit; conv => whnf)
    | apply WP.block
    | (apply reg_and; (· kernel_rfl); conv => whnf)
    | (apply ex_glen; conv => whnf)
    | (apply ex_eq; conv => whnf)
    | (apply And.intro; (· first | with_reducible rfl | exact trivial | exact Or.inl ⟨rfl, rfl⟩ | exact Or.inr rfl | decide | omega | (apply Nat.le_of_ble_eq_true; rfl) | (dsimp only; omega) | (simp only [ints_len, gl_len, mp_len, List.length_cons, List.length_nil, List.length_drop, List.length_take]; omega)); conv => whnf)
    | (apply br_no; (· omega); conv => whnf)
    | fail
  refine WP.loopM [6, 17, 18, 19, 20, 21, 22, 23, 24, 25, 26, 27, 28, 67, 68, 72, 79, 86, 101, 108] (fun j : Nat => [(6, .sl (some 0) none 1 true (gl (rowA none) (mp j (lx D H s b F)))), (67, .i .i64 j)]) (fun j => j ≤ i) (fun j => i - j) 0 ?_
  conv => whnf
  refine And.intro (And.intro ?_ ?_) (fun j hj => ?_)
  · first | omega | trivial | skip
  · conv => whnf
    repeat' first
      | apply True.intro
      | (apply ptr_and; (· kernel_rfl); conv => whnf)
      | omega
      | (apply Or.inr; rfl)
      | (apply Or.inl; rfl)
      | (apply or_row; (· rfl); (· rfl); rfl)
      | (apply Or.inr; apply And.intro; (· rfl); rfl)
      | (apply And.intro <;> conv => whnf)
      | fail
  conv => whnf
  have hg : j < i → (mp i F).getD ((j : Int).toNat) [] = F j := fun hj => by rw [Int.toNat_natCast, mp_get hj]
  have hcut : ∀ G : Nat → List Int, j < i → ((mp i G).take ((j : Int) + 1).toNat).drop (Int.toNat 0) = mp j G ++ [G j] := fun G hj => by
    rw [show ((j : Int) + 1).toNat = j + 1 by omega, mp_take (by omega), mp_succ]; rfl
  have hat : j < i → ∀ {n1 n2 n3 : Option Bool} {x : List Int}, x.length = D → I32s x → Impl Try.prog 56 [.sl none n1 1 false (ints .i32 x), .sl none n2 1 true (gl (rowA none) ((mp j fun i => sK D b (F i)) ++ [sK D b (F j)])), .sl none n3 1 true (gl (rowA none) ((mp j fun i => sV D b (F i)) ++ [sV D b (F j)])), .i .i64 c.heads] (.tup [rowA (some 0) (sAttend x ((mp j fun i => sK D b (F i)) ++ [sK D b (F j)]) ((mp j fun i => sV D b (F i)) ++ [sV D b (F j)]) s), .i .i64 0]) := fun hj {n1 n2 n3 x} hx hxw => by
    rw [hc, ← mp_succ, ← mp_succ]
    refine attend_ok hn (by omega) (by rw [mp_len]; omega) (by omega) (by rw [mp_len, mp_len]) hxw ?_ ?_
    · rw [hx]; exact mp_rowsN fun k hk => ⟨sApply_len _ _ _ _, sApply_i32 _ _ _ _⟩
    · rw [hx]; exact mp_rowsN fun k hk => ⟨sApply_len _ _ _ _, sApply_i32 _ _ _ _⟩
  by_cases hj2 : j < i
  · have ha : (gl (rowA none) (mp i F))[((j : Nat) : Int).toNat]? = some (rowA none (F j)) := by
      rw [Int.toNat_natCast]; unfold gl mp; rw [List.getElem?_map, List.getElem?_map, List.getElem?_range hj2]; rfl
    obtain ⟨f1, f2⟩ := hF j hj2
    have hk1 := fun G : Nat → List Int => hcut G hj2
    have hml2 := fun G : Nat → List Int => mp_len i G
    repeat' first
      | (refine WP.regionB (E := eLayerN) (id := 14) [(15, 13)] [(23, 86, 0)] mixed tbl_ok ?_ ?_ ?_ ?_; (· kernel_rfl); (· kernel_rfl); (· kernel_rfl); conv => whnf)
      | apply WP.seq
      | (apply WP.region (E := eLayerN) mixed tbl_ok; conv => whnf)
      | (apply WP.cond; conv => whnf)
      | (apply WP.skip; conv => whnf)
      | apply WP.block
      | (apply ex_at ha; conv => whnf)
      | (rw [hcut _ (by omega)]; conv => whnf)
      | (rw [fz_rows]; conv => whnf)
      | (apply reg_and; (· kernel_rfl); conv => whnf)
      | (apply ex_and; (· with_reducible exact norm_ok (by omega) (by omega) (by omega) (by assumption) s2); conv => whnf)
      | (apply ex_and; (· with_reducible exact apply_okM hb.q (by rw [sNorm_len]; omega) (sNorm_i32 _ _)); conv => whnf)
      | (apply ex_and; (· with_reducible exact hat (by omega) (sApply_len _ _ _ _) (sApply_i32 _ _ _ _)); conv => whnf)
      | (apply ex_and; (· with_reducible exact apply_okM hb.o (by rw [sAttend_len, sApply_len]) (sAttend_i32 _ _ _ _)); conv => whnf)
      | (apply ex_and; (· with_reducible exact addv_ok (by rw [sApply_len]; omega) (by omega) (by assumption) (sApply_i32 _ _ _ _)); conv => whnf)
      | (apply ex_and; (· with_reducible exact half_ok (by omega) (by omega) hb (by rw [sPlus_len]; omega) (sPlus_i32 _ _)); conv => whnf)
      | (apply ex_i64; (· omega); conv => whnf)
      | (apply ex_eq; conv => whnf)
      | (apply nd_gl; (· omega); conv => whnf)
      | (apply And.intro; (· first | with_reducible rfl | exact trivial | exact Or.inl ⟨rfl, rfl⟩ | exact Or.inr rfl | decide | omega | (apply Nat.le_of_ble_eq_true; rfl) | (dsimp only; omega) | (simp only [ints_len, gl_len, mp_len, List.length_cons, List.length_nil, List.length_drop, List.length_take]; omega)); conv => whnf)
      | (apply br_yes; (· omega); conv => whnf)
      | rw [gl_cut]
      | fail
    refine Exists.intro (j + 1) (And.intro (And.intro ?_ ?_) ?_)
    · first | omega | skip
    · first | omega | skip
    conv => whnf
    repeat' first
      | apply True.intro
      | (apply ptr_and; (· kernel_rfl); conv => whnf)
      | omega
      | (apply Or.inr; rfl)
      | (apply Or.inl; rfl)
      | (apply or_row; (· rfl); (· rfl); rfl)
      | (apply or_row; (· rfl); (· rfl); apply gl_mp; subst_vars; rfl)
      | (apply And.intro <;> conv => whnf)
      | fail
  · repeat' first
      | apply WP.seq
      | (apply WP.region (E := eLayerN) mixed tbl_ok; conv => whnf)
      | (apply WP.cond; conv => whnf)
      | (apply WP.ret; conv => whnf)
      | (apply WP.exit; conv => whnf)
      | (apply reg_and; (· kernel_rfl); conv => whnf)
      | (apply ex_eq; conv => whnf)
      | (apply nodup_and; (· exact of_decide_eq_true (by kernel_rfl)); conv => whnf)
      | (apply And.intro; (· first | with_reducible rfl | exact trivial | exact Or.inl ⟨rfl, rfl⟩ | exact Or.inr rfl | decide | omega | (apply Nat.le_of_ble_eq_true; rfl) | (dsimp only; omega) | (simp only [ints_len, gl_len, mp_len, List.length_cons, List.length_nil, List.length_drop, List.length_take]; omega)); conv => whnf)
      | (apply br_no; (· omega); conv => whnf)
      | fail
    have e : j = i := by omega
    subst e
    repeat' first
      | apply True.intro
      | (apply Or.inr; rfl)
      | (apply or_row; (· rfl); (· rfl); rfl)
      | (apply And.intro <;> conv => whnf)
      | (apply Nat.le_of_ble_eq_true; rfl)
      | fail
end Go.Proofs.Ytcngjnhdemjomaa.T
