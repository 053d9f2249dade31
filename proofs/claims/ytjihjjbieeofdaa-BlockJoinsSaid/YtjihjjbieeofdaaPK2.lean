/- What functions of the program come to, on trees. No condition but those that the theorems name. -/
import Derived.Great.BuildSlice
import Derived.Laws.MakeOwn
import Derived.Laws.AppendOwn
import Derived.Orders
import Derived.Test.YtjihjjbieeofdaaPK1
namespace Go.Proofs.Ytjihjjbieeofdaa.T
set_option linter.unusedSimpArgs false
set_option linter.unusedVariables false
open Go Go.RowKit
set_option linter.unusedVariables false
set_option linter.unusedSimpArgs false
section
variable {P : Program} {W0 : Bs} {N : Nat} {G G' : Gh} {g g' : Nat → AV} {a a' : Act} {w w' : World} {X X' : List Nat} {L : Lg} {k d : Nat} {E : Env} {o : Oper} {Imp : Nat → List AV → AV → Prop}
theorem zeroB_rp {v : AV} {y : Value} (h : zeroB v y = true) (w : World) (F : Nat → Prop) : Rp w F v [y] [] ∧ v.plain1 = true ∧ v.pst = [] := by
  unfold zeroB at h
  split at h
  · have := eq_of_beq h; subst this; exact ⟨.b _, rfl, rfl⟩
  · simp only [Bool.and_eq_true, beq_iff_eq] at h
    obtain ⟨rfl, rfl⟩ := h
    exact ⟨.i _ _, rfl, rfl⟩
  · rename_i x y
    simp only [Bool.and_eq_true, beq_iff_eq] at h
    have : x = y := by
      cases x with
      | mk dx =>
        cases y with
        | mk dy =>
          have h1 : dx = #[] := Array.eq_empty_of_size_eq_zero h.1
          have h2 : dy = #[] := Array.eq_empty_of_size_eq_zero h.2
          rw [h1, h2]
    subst this
    exact ⟨.s _, rfl, rfl⟩
  · rename_i o1 sz dp
    refine ⟨?_, rfl, rfl⟩
    cases o1 with
    | none => exact .fz (l := []) (A := none) (cap := 0) (b := 0) (off := 0) (cs := fun _ => []) (Nat.le_refl _) (Nat.zero_le _) (fun x hx => by cases hx; simp) (fun _ => ⟨rfl, rfl⟩) (fun h => absurd rfl h) (fun j hj => by simp at hj) (fun j e he => by simp at he) (fun _ e he => by cases he) (fun j q u hj => by simp at hj)
    | some s => exact .own0 (by simp)
  · exact ⟨.any rfl, rfl, rfl⟩
  · cases h
theorem zerosB_rp : ∀ {vs : List AV} {ys : List Value}, zerosB vs ys = true → ys.length = vs.length ∧ ∀ (j : Nat) (v : AV) (y : Value), vs[j]? = some v → ys[j]? = some y → zeroB v y = true
  | [], [], _ => ⟨rfl, fun j v y h => by simp at h⟩
  | [], _ :: _, h => by cases h
  | _ :: _, [], h => by cases h
  | v :: vs, y :: ys, h => by
    simp only [zerosB, Bool.and_eq_true] at h
    obtain ⟨e, h2⟩ := zerosB_rp h.2
    refine ⟨by simp [e], fun j v' y' hv hy => ?_⟩
    cases j with
    | zero => simp at hv hy; subst hv; subst hy; exact h.1
    | succ j => simp at hv hy; exact h2 j v' y' hv hy
theorem wrl_get {n off : Nat} : ∀ {vs : List AV} {j : Nat} {g g' : Nat → AV} {L : Lg}, Runs Imp (wrl n off j vs) g () g' L → ∀ l, g' l = if loc n (off + j) ≤ l ∧ l < loc n (off + j) + vs.length then vs.getD (l - loc n (off + j)) .any else g l
  | [], j, g, g', L, hr, l => by
    obtain ⟨_, rfl⟩ := runs_ret hr
    rw [if_neg (by simp)]
  | v :: vs, j, g, g', L, hr, l => by
    obtain ⟨_, r1⟩ := runs_upd hr
    rw [wrl_get r1 l]
    have e : loc n (off + (j + 1)) = loc n (off + j) + 1 := by unfold loc; omega
    simp only [List.length_cons]
    rw [e]
    by_cases h1 : l = loc n (off + j)
    · subst h1
      rw [if_neg (by omega), if_pos (by omega), upd_self, Nat.sub_self]; rfl
    · by_cases h2 : loc n (off + j) + 1 ≤ l ∧ l < loc n (off + j) + 1 + vs.length
      · rw [if_pos h2, if_pos (by omega)]
        rw [show l - loc n (off + j) = (l - (loc n (off + j) + 1)) + 1 by omega]; rfl
      · rw [if_neg h2, if_neg (by omega), upd_ne h1]
theorem newbx_snd (h : Rel W0 N G g a w X) (hn : NoSt (k + 1) g) (hdn : d < N) {vs : List AV} {arr : Array Value} {ty : TypeId} {tf : Nat → List Nat} (hs : arr.size = vs.length) (hv : ∀ c v y, vs[c]? = some v → arr[c]? = some y → Rp w G.F v [y] (tf c)) (hX : X = (List.range vs.length).flatMap tf ++ X') (hp : ∀ v ∈ vs, v.plain1 = true) (hst : ∀ s nl sz dp l, AV.sl (some s) nl sz dp l ∈ vs → ∀ l', s ∉ (g l').pst) (hr : Runs Imp (newbx d vs) g () g' L) :
    Fin W0 N g' a (some d) (.pointer (some ⟨w.heap.size, 0, none⟩)) (w.alloc (.cells arr ty (0, 0))) := by
  obtain ⟨_, r1⟩ := runs_rd hr
  split at r1
  · rename_i hfl
    split at r1
    · rename_i hcond
      simp only [Bool.and_eq_true, decide_eq_true_eq] at hcond
      obtain ⟨_, g1, L1, L2, r2, r3, _⟩ := Runs.bind_inv r1
      obtain ⟨_, r4⟩ := runs_upd r3
      obtain ⟨_, r5⟩ := runs_upd r4
      obtain ⟨_, rfl⟩ := runs_ret r5
      obtain ⟨G1, k1, k2, k3⟩ := h.newBox (by have := h.hN; omega) hfl (vs := vs) (arr := arr) (ty := ty) (tf := tf) hcond.1 hs hv (fun c v hv' => plain_nagg (hp v (List.mem_of_getElem? hv'))) hX hst
      have e : upd g1 (loc d 999) (.i .i64 vs.length) = boxed g d vs := by
        funext l
        have := wrl_get r2 l
        unfold boxed
        by_cases h1 : l = loc d 999
        · subst h1; rw [upd_self, if_pos rfl]
        · rw [upd_ne h1, if_neg h1, this]
          have e2 : loc d (0 + 0) = 1000 * (d + 1) := by unfold loc; omega
          rw [e2]
      rw [e]
      obtain ⟨G2, q1, _, _⟩ := k1.put hdn (v := .ptr d 0) (x := .pointer (some ⟨w.heap.size, 0, none⟩)) (td := []) ⟨rfl, w.heap.size, vs.length, by rw [k3, upd_self], rfl⟩ rfl (fun s nl sz dp l e => by cases e)
      exact ⟨G2, q1.drop (fun b hb => by cases hb) List.nodup_nil⟩
    · exact (runs_fail r1).elim
  · exact (runs_fail r1).elim
theorem alloc_eq (w : World) (cs : Array Value) (t : TypeId) : ({ w with heap := w.heap.push (.cells cs t) } : World) = w.alloc (.cells cs t (0, 0)) := rfl
theorem st1_plain {v : AV} {k : Nat} (h : v.plain1 = true) : (v.st1 k).plain1 = true := by
  cases v with
  | sl o1 nl sz dp l => cases o1 <;> rfl
  | any | b | i | s | fa => rfl
  | _ => cases h
theorem alloc_snd (hE : E.tb.okB P = true) (h : Rel W0 N G g a w []) (hn : NoSt (k + 1) g) {e : Nat} (ho : o.op = .alloc e) (hd : o.dst = some d) (hdn : d < N) {i : TI} (hi : E.tb.get e = some i) (hr : Runs Imp (newbx d (AV.stl (k + 1) i.zero)) g () g' L) : Yl P o a w (Fin W0 N g' a o.dst) := by
  rw [hd]
  obtain ⟨_, ds, z, hty⟩ := tb_ok hE hi
  obtain ⟨c1, c2⟩ := zerosB_rp hty.zs
  have hex : (execOp a.eval o).run P w = .ok (.value (.pointer (some ⟨w.heap.size, 0, none⟩))) (w.alloc (.cells z.cells e (0, 0))) := by
    refine ex_of (S := Instr.alloc e true (.tuple #[])) (by unfold execOp; rw [ho]) ?_
    simp [Instr.alloc, hty.zeroValue, newVar, newRow, newObj, Sem.run, alloc_eq]
  refine Yl.value hex (newbx_snd (tf := fun _ => []) (X' := []) h hn hdn (by rw [stl_len]; simpa using c1) (fun c v y hv hy => ?_) (by simp) (fun v hv => ?_) (fun s nl sz dp l hm l' => ?_) hr)
  · obtain ⟨v0, hv0, rfl⟩ := stl_get hv
    exact (zeroB_rp (c2 c v0 y hv0 (by simpa using hy)) w G.F).1.st1 _
  · obtain ⟨j, hj⟩ := List.getElem?_of_mem hv
    obtain ⟨v0, hv0, rfl⟩ := stl_get hj
    have hlt := lt_of_get hv0
    exact st1_plain (zeroB_rp (c2 j v0 _ hv0 (List.getElem?_eq_getElem (by omega))) w G.F).2.1
  · rw [stl_stp hm]; exact hn l'
theorem box_snd (hE : E.tb.okB P = true) (h : Rel W0 N G g a w []) (hn : NoSt (k + 1) g) {e : Nat} {x : Operand} (ho : o.op = .box e x) (hd : o.dst = some d) (hdn : d < N) (hx : opOk N x) {i : TI} (hi : E.tb.get e = some i) (hr : Runs Imp ((take k false false x).bind fun v => if v.cellsL.length = i.size ∧ v.memOk = true then newbx d v.cellsL else .fail) g () g' L) : Yl P o a w (Fin W0 N g' a o.dst) := by
  rw [hd]
  obtain ⟨v, g1, L1, L2, r1, r2, _⟩ := Runs.bind_inv hr
  obtain ⟨G1, ts, k1, k2, k3, k4⟩ := take_snd h hx r1
  have hn1 := k3.less.noSt hn
  split at r2
  · rename_i hcond
    obtain ⟨tf, c1, c2, c3, c4, c5⟩ := cells_rv k2 hcond.2
    have hex : (execOp a.eval o).run P w = .ok (.value (.pointer (some ⟨w.heap.size, 0, none⟩))) (w.alloc (.cells (a.eval x).cells e (0, 0))) := by
      refine ex_of (S := Instr.box e (a.eval x)) (by unfold execOp; rw [ho]) ?_
      simp [Instr.box, newVar, newRow, newObj, Sem.run, alloc_eq]
    refine Yl.value hex (newbx_snd (tf := tf) (X' := []) k1 hn1 hdn c2 c3 (by rw [c1]) c4 (fun s nl sz dp l hm l' => ?_) r2)
    have : s = k + 1 := by
      cases v with
      | agg cs => exact k4.2 cs rfl s nl sz dp l hm
      | sl o1 nl1 sz1 dp1 l1 =>
        simp only [AV.cellsL, List.mem_singleton] at hm
        exact k4.1 s nl sz dp l hm.symm
      | _ => simp [AV.cellsL] at hm
    rw [this]; exact hn1 l'
  · exact (runs_fail r2).elim
/-- A component is taken out of a tuple. -/
theorem Rel.takeT (h : Rel W0 N G g a w X) {t : Nat} (ht : t < N) {l : List AV} (hg : g t = .tup l) {j : Nat} {e : AV} (he : l[j]? = some e) : ∃ G' ts vs y, Rel W0 N G' (upd g t (.tup (l.set j .any))) a w (ts ++ X) ∧ a.tmps.getD t undef = .tuple vs ∧ vs[j]? = some y ∧ RW w G'.F e y ts ∧ G'.F = G.F ∧ G'.bx = G.bx := by
  have hsl := h.sl t ht
  rw [hg] at hsl
  obtain ⟨vs, e1, hs, tf, htf, hc⟩ := hsl
  have hj := lt_of_get he
  have hy : vs[j]? = some (vs[j]'(by omega)) := Array.getElem?_eq_getElem (by omega)
  have hnd := h.tn t
  rw [htf] at hnd
  obtain ⟨n1, n2⟩ := of_nodup_flat hnd
  have hsub : ∀ b ∈ (List.range l.length).flatMap (fun i => if i = j then [] else tf i), b ∈ G.tk t := by
    intro b hb
    obtain ⟨i, hi, hb⟩ := of_mem_flat hb
    rw [htf]
    split at hb
    · cases hb
    · exact mem_flat hi hb
  obtain ⟨t1, t2, t3⟩ := h.toks (r := t) hsub (nodup_flat (fun i hi => by split; exact List.nodup_nil; exact n1 i hi) (fun i i' b hi hi' h1 h2 => by
    split at h1 <;> split at h2
    · omega
    · cases h1
    · cases h2
    · exact n2 i i' b hi hi' h1 h2))
  have htj : ∀ b ∈ tf j, b ∈ G.tk t := fun b hb => by rw [htf]; exact mem_flat hj hb
  refine ⟨⟨G.F, G.bx, upd G.tk t ((List.range l.length).flatMap fun i => if i = j then [] else tf i)⟩, tf j, vs, _, h.re (fun _ hf => hf) rfl (fun r ix ss s nl sz dp l' rb hp => ?_) (fun l' => ?_) (fun t' h1 h2 h3 => ?_) (fun n => ?_) (fun l' b hb => h.tk l' b (t3 l' b hb)) t1 t2 h.F (fun _ hf => .inl hf) (fun b hf n z hb => (h.bx n b z hb).2.2.2.1 hf) (fun b hb => ?_) ?_, e1, hy, hc j e _ he hy, rfl, rfl⟩
  · by_cases er : r = t
    · subst er; rw [upd_self] at hp; cases hp
    · rw [upd_ne er] at hp; exact ⟨_, _, _, _, hp, rfl⟩
  · by_cases el : l' = t
    · subst el
      refine .inr ⟨fun _ => ?_, fun n b z c y hl => ?_⟩
      · rw [upd_self]; dsimp only; rw [upd_self]
        refine ⟨vs, e1, by simpa using hs, fun i => if i = j then [] else tf i, by rw [List.length_set], fun i e2 y2 he2 hy2 => ?_⟩
        by_cases hij : i = j
        · subst hij
          rw [List.getElem?_set_self hj] at he2
          cases he2
          dsimp only
          rw [if_pos rfl]; exact rfl
        · rw [List.getElem?_set_ne (fun h => hij h.symm)] at he2
          dsimp only
          rw [if_neg hij]
          exact hc i e2 y2 he2 hy2
      · have := loc_ge n c
        have := h.hN
        omega
    · exact .inl ⟨upd_ne el, upd_ne el⟩
  · rw [upd_ne (by omega)]; exact h3
  · rw [upd_ne (fun e => by have := loc_ge n 999; have := h.hN; omega)]; exact ⟨fun hn => hn, fun z hz => hz⟩
  · rcases List.mem_append.1 hb with hb | hb
    · obtain ⟨x1, x2, x3, x4⟩ := h.tk t b (htj b hb)
      refine ⟨x1, x2, x3, x4, fun l' hl' => ?_⟩
      have e2 := h.td l' t b (t3 l' b hl') (htj b hb)
      subst e2
      dsimp only at hl'
      rw [upd_self] at hl'
      obtain ⟨i, hi, hbi⟩ := of_mem_flat hl'
      split at hbi
      · cases hbi
      · rename_i hij
        exact hij (n2 i j b hi hj hbi hb)
    · obtain ⟨x1, x2, x3, x4, x5⟩ := h.xb b hb
      exact ⟨x1, x2, x3, x4, fun l' hl' => x5 l' (t3 l' b hl')⟩
  · exact List.nodup_append.2 ⟨n1 j hj, h.xn, fun x hx y hy e => by subst e; exact (h.xb x hy).2.2.2.2 t (htj x hx)⟩
theorem rw_rv {F : Nat → Prop} (hF : F = G.F) {e : AV} {y : Value} {ts : List Nat} (h : RW w F e y ts) : RV G g a w e y ts := by
  subst hF
  cases e with
  | any => exact h
  | agg l => obtain ⟨arr, e, h1⟩ := h; rw [e]; exact rp_rv h1
  | tup | ptr | pv | ea | psl | pfa => cases h
  | _ => exact h
theorem st_st2 {e : AV} {k : Nat} (h : ∀ l, e ≠ .tup l) : e.st k = e.st2 k := by
  cases e <;> first | rfl | exact absurd rfl (h _)
theorem st2_stp {e : AV} {k : Nat} : Stp k (e.st2 k) := by
  cases e with
  | agg l => exact ⟨fun s nl sz dp l' h => (by cases h), fun cs h s nl sz dp l' hm => (by cases h; exact stl_stp hm)⟩
  | sl o1 nl sz dp l => cases o1 <;> exact ⟨fun s nl' sz' dp' l' h => (by cases h <;> rfl), fun cs h => (by cases h)⟩
  | _ => exact ⟨fun s nl sz dp l' h => (by cases h), fun cs h => (by cases h)⟩
theorem extract_snd (h : Rel W0 N G g a w []) (hn : NoSt (k + 1) g) {t j : Nat} (ho : o.op = .extract (.tmp t) j) (hd : o.dst = some d) (hdn : d < N) (ht : t < N) {bl : Bool} (hr : Runs Imp (.rd t fun v => extractP k d t j bl v) g () g' L) : Yl P o a w (Fin W0 N g' a o.dst) := by
  rw [hd]
  obtain ⟨_, r1⟩ := runs_rd hr
  unfold extractP at r1
  split at r1
  · rename_i l hg
    split at r1
    · rename_i e he
      have hex : ∀ vs y, a.tmps.getD t undef = .tuple vs → vs[j]? = some y → (execOp a.eval o).run P w = .ok (.value y) w := by
        intro vs y hx hy
        refine ex_of (S := Instr.extract (a.eval (.tmp t)) j) (by unfold execOp; rw [ho]) ?_
        have hx' : a.eval (.tmp t) = .tuple vs := hx
        rw [hx']
        simp [Instr.extract, hy]
      split at r1
      · have hsl := h.sl t ht
        rw [hg] at hsl
        obtain ⟨vs, e1, hs, _⟩ := hsl
        have hj := lt_of_get he
        exact Yl.value (hex vs _ e1 (Array.getElem?_eq_getElem (by omega))) (put_idle h hdn (v := .any) rfl rfl r1)
      split at r1
      · obtain ⟨_, r2⟩ := runs_upd r1
        obtain ⟨G', ts, vs, y, k1, k2, k3, k4, k5, k6⟩ := h.takeT ht hg he
        have hnt : ∀ l, e ≠ .tup l := fun l e0 => by subst e0; cases k4
        rw [st_st2 hnt] at r2
        exact Yl.value (hex vs y k2 k3) (put_fin k1 hdn (rw_rv rfl (k4.st2 (k + 1))) ⟨[], rfl⟩ (no_stp st2_stp ((Less.upd rfl).noSt hn)) r2)
      · rename_i hno
        have hsl := h.sl t ht
        rw [hg] at hsl
        obtain ⟨vs, e1, hs, tf, htf, hc⟩ := hsl
        have hj := lt_of_get he
        have hy : vs[j]? = some (vs[j]'(by omega)) := Array.getElem?_eq_getElem (by omega)
        have h1 := hc j e _ he hy
        have h2 := rw_noTok h1 (by simpa using hno)
        rw [h2] at h1
        have : e.own1 = false := by
          cases e with
          | sl o1 nl sz dp l => cases o1 <;> first | rfl | simp [AV.own2, AV.own1] at hno
          | _ => rfl
        exact Yl.value (hex vs _ e1 hy) (put_idle h hdn (rw_rv rfl h1) this r1)
    · exact (runs_fail r1).elim
  · exact (runs_fail r1).elim
end
end Go.Proofs.Ytjihjjbieeofdaa.T
namespace Go.Proofs.Ytjihjjbieeofdaa.T
set_option linter.unusedSimpArgs false
set_option linter.unusedVariables false
open Go Go.RowKit
set_option linter.unusedVariables false
set_option linter.unusedSimpArgs false
section
variable {P : Program} {W0 : Bs} {N : Nat} {G G' : Gh} {g g' : Nat → AV} {a a' : Act} {w w' : World} {X X' : List Nat} {L : Lg} {k d : Nat} {E : Env} {o : Oper} {Imp : Nat → List AV → AV → Prop}
/-- A value in hand, cell by cell. -/
def Held (w : World) (F : Nat → Prop) (v : AV) (x : Value) (ts : List Nat) : Prop := v.memOk = true → ∃ tf : Nat → List Nat, ts = (List.range v.cellsL.length).flatMap tf ∧ x.cells.size = v.cellsL.length ∧ (∀ j e y, v.cellsL[j]? = some e → x.cells[j]? = some y → Rp w F e [y] (tf j)) ∧ (∀ e ∈ v.cellsL, e.plain1 = true) ∧ ((∃ l, v = .agg l) ↔ ∃ arr, x = .agg arr)
theorem Held.mono {F F' : Nat → Prop} {v : AV} {x : Value} {ts : List Nat} (h : Held w F v x ts) (hF : ∀ b, F b → F' b) : Held w F' v x ts := fun hm => by
  obtain ⟨tf, c1, c2, c3, c4⟩ := h hm
  exact ⟨tf, c1, c2, fun j e y he hy => (c3 j e y he hy).mono hF, c4⟩
/-- Put together again. -/
theorem Held.rp {F : Nat → Prop} {v : AV} {x : Value} {ts : List Nat} (h : Held w F v x ts) (hm : v.memOk = true) : Rp w F v x.cells.toList ts := by
  obtain ⟨tf, c1, c2, c3, c4, c5⟩ := h hm
  cases v with
  | agg l =>
    rw [c1]
    exact .agg (by simpa [AV.cellsL] using c2) (fun j e he => plain_nagg (c4 e (List.mem_of_getElem? he))) (fun j e y he hy => c3 j e y he (by simpa using hy))
  | _ =>
    have hx : x.cells.toList = [x.cells[0]'(by rw [c2]; exact Nat.zero_lt_one)] := by
      have : x.cells.toList.length = 1 := by simpa [AV.cellsL] using c2
      obtain ⟨y, hy⟩ := List.length_eq_one_iff.1 this
      rw [hy]
      congr 1
      have : x.cells.toList[0]? = some y := by rw [hy]; rfl
      rw [Array.getElem?_toList, Array.getElem?_eq_getElem (by rw [c2]; exact Nat.zero_lt_one)] at this
      exact (Option.some.inj this).symm
    rw [hx, c1]
    have := c3 0 _ _ rfl (Array.getElem?_eq_getElem (by rw [c2]; exact Nat.zero_lt_one))
    simpa [AV.cellsL, List.range_succ] using this
theorem parts_snd {fd fp : Bool} : ∀ {ps : List (Nat × Operand)} {vs : List (Nat × AV)} {G : Gh} {g : Nat → AV} {X : List Nat} {L : Lg}, Rel W0 N G g a w X → (∀ p ∈ ps, opOk N p.2) → Runs Imp (parts k fd fp ps) g vs g' L →
    ∃ (G' : Gh) (tss : List (List Nat)), Rel W0 N G' g' a w (tss.flatten ++ X) ∧ tss.length = ps.length ∧ vs.length = ps.length ∧ (∀ (p : Nat) (iv : Nat × AV) (ts : List Nat), vs[p]? = some iv → tss[p]? = some ts → ∃ x, ps[p]? = some (iv.1, x) ∧ Held w G'.F iv.2 (a.eval x) ts ∧ Stp (k + 1) iv.2) ∧ Mv G G' g g'
  | [], vs, G, g, X, L, h, _, hr => by
    obtain ⟨rfl, rfl⟩ := runs_ret hr
    exact ⟨G, [], h, rfl, rfl, fun p iv ts hv => by simp at hv, Mv.refl G _⟩
  | (i, x) :: ps, vs, G, g, X, L, h, hx, hr => by
    obtain ⟨v, g1, L1, L2, r1, r2, _⟩ := Runs.bind_inv hr
    obtain ⟨vs1, g2, L3, L4, r3, r4, _⟩ := Runs.bind_inv r2
    obtain ⟨rfl, rfl⟩ := runs_ret r4
    obtain ⟨G1, ts1, k1, k2, k3, k4⟩ := take_snd h (hx _ List.mem_cons_self) r1
    obtain ⟨G2, tss, q1, q2, q3, q4, q5⟩ := parts_snd k1 (fun p hp => hx p (List.mem_cons_of_mem _ hp)) r3
    refine ⟨G2, ts1 :: tss, ?_, by simp [q2], by simp [q3], fun p iv ts hv hts => ?_, k3.trans q5⟩
    · have hnd := q1.xn
      refine q1.drop (fun b hb => ?_) ?_
      · simp only [List.flatten_cons, List.mem_append] at hb ⊢
        rcases hb with (hb | hb) | hb <;> simp [hb]
      · obtain ⟨n1, n2, n3⟩ := List.nodup_append.1 hnd
        obtain ⟨n4, n5, n6⟩ := List.nodup_append.1 n2
        rw [List.flatten_cons]
        refine List.nodup_append.2 ⟨List.nodup_append.2 ⟨n4, n1, fun x hx y hy e => n3 y hy x (List.mem_append_left _ hx) e.symm⟩, n5, fun x hx y hy => ?_⟩
        rcases List.mem_append.1 hx with hx | hx
        · exact n6 x hx y hy
        · exact n3 x hx y (List.mem_append_right _ hy)
    · cases p with
      | zero =>
        simp only [List.getElem?_cons_zero, Option.some.injEq] at hv hts
        subst hv; subst hts
        exact ⟨x, rfl, (Held.mono (fun hm => cells_rv k2 hm) q5.F), k4⟩
      | succ p =>
        simp only [List.getElem?_cons_succ] at hv hts ⊢
        exact q4 p iv ts hv hts
/-- Cells of a value in the making. -/
structure Cls (w : World) (F : Nat → Prop) (cs : List AV) (c : Array Value) (tf : Nat → List Nat) (D : Nat → Prop) : Prop where
  len : c.size = cs.length
  rp : ∀ j e y, cs[j]? = some e → c[j]? = some y → Rp w F e [y] (tf j)
  pl : ∀ e ∈ cs, e.plain1 = true
  sub : ∀ j b, j < cs.length → b ∈ tf j → D b
  nd : ∀ j, j < cs.length → (tf j).Nodup
  dj : ∀ i j b, i < cs.length → j < cs.length → b ∈ tf i → b ∈ tf j → i = j
theorem splice_get {cs vs : List AV} {off : Nat} (h : off + vs.length ≤ cs.length) (j : Nat) : (splice cs off vs)[j]? = if off ≤ j ∧ j < off + vs.length then vs[j - off]? else cs[j]? := by
  unfold splice
  by_cases h1 : j < off
  · rw [if_neg (by omega), List.append_assoc, List.getElem?_append_left (by simp; omega), List.getElem?_take_of_lt h1]
  · by_cases h2 : j < off + vs.length
    · rw [if_pos (by omega), List.append_assoc, List.getElem?_append_right (by simp; omega), List.getElem?_append_left (by simp; omega)]
      congr 1; simp; omega
    · rw [if_neg (by omega), List.getElem?_append_right (by simp; omega), List.getElem?_drop]
      congr 1; simp; omega
theorem splice_len {cs vs : List AV} {off : Nat} (h : off + vs.length ≤ cs.length) : (splice cs off vs).length = cs.length := by
  unfold splice; simp; omega
theorem Cls.put {F : Nat → Prop} {cs : List AV} {c : Array Value} {tf : Nat → List Nat} {D : Nat → Prop} (h : Cls w F cs c tf D) {v : AV} {x : Value} {ts : List Nat} (hv : Held w F v x ts) (hm : v.memOk = true) {off : Nat} (ho : off + v.cellsL.length ≤ cs.length) (hnd : ts.Nodup) (hD : ∀ b ∈ ts, ¬ D b) :
    ∃ c' tf', Cls w F (splice cs off v.cellsL) c' tf' (fun b => D b ∨ b ∈ ts) ∧ x.cells.size = v.cellsL.length ∧ x.cells.zipIdx.foldl (fun cs (x : Value × Nat) => cs.setIfInBounds (off + x.2) x.1) c = c' := by
  obtain ⟨tv, c1, c2, c3, c4, _⟩ := hv hm
  obtain ⟨f1, f2⟩ := Great.foldl_set off x.cells.toList 0 c
  have hfold : x.cells.zipIdx.foldl (fun cs (x : Value × Nat) => cs.setIfInBounds (off + x.2) x.1) c = (x.cells.toList.zipIdx 0).foldl (fun cs (x : Value × Nat) => cs.setIfInBounds (off + x.2) x.1) c := by
    rw [← Array.foldl_toList, Array.toList_zipIdx]
  rw [c1] at hnd
  obtain ⟨n1, n2⟩ := of_nodup_flat hnd
  have hsl := splice_len ho
  have ht : ∀ q, q < v.cellsL.length → ∀ b ∈ tv q, b ∈ ts := fun q hq b hb => by rw [c1]; exact mem_flat hq hb
  refine ⟨_, fun j => if off ≤ j ∧ j < off + v.cellsL.length then tv (j - off) else tf j, ⟨?_, fun j e y he hy => ?_, fun e he => ?_, fun j b hj hb => ?_, fun j hj => ?_, fun i j b hi hj hbi hbj => ?_⟩, c2, hfold⟩
  · rw [f1, hsl]; exact h.len
  · rw [splice_get ho] at he
    have hl : x.cells.toList.length = v.cellsL.length := by rw [Array.length_toList]; exact c2
    have hjl : j < cs.length := by
      split at he
      · omega
      · exact lt_of_get he
    rw [f2 j] at hy
    by_cases hin : off ≤ j ∧ j < off + v.cellsL.length
    · rw [if_pos hin] at he ⊢
      rw [if_pos ⟨by omega, by omega, by rw [h.len]; exact hjl⟩] at hy
      exact c3 _ e y he (by simpa using hy)
    · rw [if_neg hin] at he ⊢
      rw [if_neg (by omega)] at hy
      exact h.rp j e y he hy
  · unfold splice at he
    simp only [List.mem_append] at he
    rcases he with (he | he) | he
    · exact h.pl e (List.mem_of_mem_take he)
    · exact c4 e he
    · exact h.pl e (List.mem_of_mem_drop he)
  · split at hb
    · exact .inr (ht _ (by omega) b hb)
    · exact .inl (h.sub j b (by omega) hb)
  · split
    · exact n1 _ (by omega)
    · exact h.nd j (by omega)
  · rw [hsl] at hi hj
    split at hbi <;> split at hbj
    · have := n2 (i - off) (j - off) b (by omega) (by omega) hbi hbj; omega
    · exact absurd (h.sub j b hj hbj) (hD b (ht _ (by omega) b hbi))
    · exact absurd (h.sub i b hi hbi) (hD b (ht _ (by omega) b hbj))
    · exact h.dj i j b hi hj hbi hbj
theorem fill_snd {F : Nat → Prop} {pl : List (Nat × Nat)} : ∀ {vs : List (Nat × AV)} {xs : List (Nat × Value)} {tss : List (List Nat)} {cs cs' : List AV} {c : Array Value} {tf : Nat → List Nat} {D : Nat → Prop}, Cls w F cs c tf D → fillF pl cs vs = some cs' → xs.length = vs.length → tss.length = vs.length → (∀ (p : Nat) (iv : Nat × AV) (ix : Nat × Value) (ts : List Nat), vs[p]? = some iv → xs[p]? = some ix → tss[p]? = some ts → iv.1 = ix.1 ∧ Held w F iv.2 ix.2 ts) → tss.flatten.Nodup → (∀ b ∈ tss.flatten, ¬ D b) →
    ∃ c' tf', Instr.fill (pl.toArray[·]?) c xs = some c' ∧ Cls w F cs' c' tf' (fun b => D b ∨ b ∈ tss.flatten)
  | [], [], [], cs, cs', c, tf, D, h, hf, _, _, _, _, _ => by
    cases hf
    exact ⟨c, tf, rfl, ⟨h.len, h.rp, h.pl, fun j b hj hb => .inl (h.sub j b hj hb), h.nd, h.dj⟩⟩
  | (i, v) :: vs, ix :: xs, ts :: tss, cs, cs', c, tf, D, h, hf, hl1, hl2, hv, hnd, hD => by
    obtain ⟨e1, hh⟩ := hv 0 (i, v) ix ts rfl rfl rfl
    obtain ⟨i', x⟩ := ix
    simp only at e1 hh
    subst e1
    unfold fillF at hf
    split at hf
    · rename_i off z hp
      split at hf
      · rename_i hcond
        obtain ⟨hz, ho, hm⟩ := hcond
        rw [List.flatten_cons] at hnd hD
        obtain ⟨m1, m2, m3⟩ := List.nodup_append.1 hnd
        obtain ⟨c1, tf1, q1, q2, q3⟩ := h.put hh hm (by rw [hz]; exact ho) m1 (fun b hb => hD b (List.mem_append_left _ hb))
        obtain ⟨c2, tf2, w1, w2⟩ := fill_snd q1 hf (by simpa using hl1) (by simpa using hl2) (fun p iv ix ts' h1 h2 h3 => hv (p + 1) iv ix ts' h1 h2 h3) m2 (fun b hb hb2 => hb2.elim (hD b (List.mem_append_right _ hb)) (fun hb3 => m3 b hb3 b hb rfl))
        refine ⟨c2, tf2, ?_, ⟨w2.len, w2.rp, w2.pl, fun j b hj hb => ?_, w2.nd, w2.dj⟩⟩
        · unfold Instr.fill
          have hp' : pl.toArray[i]? = some (off, z) := by rw [List.getElem?_toArray]; exact hp
          simp only [hp']
          rw [if_neg (by simp only [Bool.or_eq_true, decide_eq_true_eq]; rintro (h1 | h1); exact h1 (by rw [q2]; exact hz); rw [q2, h.len] at h1; omega), q3]
          exact w1
        · rcases w2.sub j b hj hb with (h1 | h1) | h1
          · exact .inl h1
          · exact .inr (List.mem_append_left _ h1)
          · exact .inr (List.mem_append_right _ h1)
      · cases hf
    · cases hf
theorem places_eq (hE : E.tb.okB P = true) : ∀ {fs : List Field} {pl : List (Nat × Nat)}, placesOf E.tb (fs.map fun f => (f.offset, f.type)) = some pl → fs.mapM (fun f => (P.info? f.type).map fun i => (f.offset, i.size)) = some pl
  | [], pl, h => by simp [placesOf] at h; subst h; rfl
  | f :: fs, pl, h => by
    simp only [List.map_cons, placesOf] at h
    split at h
    · rename_i i hi
      split at h
      · rename_i ps hps
        cases h
        obtain ⟨info, _, _, hty⟩ := tb_ok hE hi
        simp [List.mapM_cons, hty.hi, hty.size, places_eq hE hps]
      · cases h
    · cases h
theorem build_snd (hE : E.tb.okB P = true) (h : Rel W0 N G g a w []) (hn : NoSt (k + 1) g) {t : Nat} {ps : Array (Nat × Operand)} (ho : o.op = .build t ps) (hd : o.dst = some d) (hdn : d < N) (hx : ∀ p ∈ ps.toList, opOk N p.2) {i : TI} (hi : E.tb.get t = some i) {fs : List (Nat × Nat)} (hk : i.k = .st fs) {pl : List (Nat × Nat)} (hpl : placesOf E.tb fs = some pl) (hr : Runs Imp ((parts k false true ps.toList).bind fun vs => buildP k d pl i.zero vs) g () g' L) : Yl P o a w (Fin W0 N g' a o.dst) := by
  rw [hd]
  obtain ⟨vs, g1, L1, L2, r1, r2, _⟩ := Runs.bind_inv hr
  obtain ⟨G1, tss, k1, k2, k3, k4, k5⟩ := parts_snd h hx r1
  have hn1 := k5.less.noSt hn
  obtain ⟨info, ds, z, hty⟩ := tb_ok hE hi
  have d1 := hty.desc
  rw [hk] at d1
  obtain ⟨fields, rfl, hm⟩ := d1
  obtain ⟨z1, z2⟩ := zerosB_rp hty.zs
  unfold buildP at r2
  split at r2
  · rename_i cs hf
    have hc0 : Cls w G1.F i.zero z.cells (fun _ => []) (fun _ => False : Nat → Prop) := ⟨by rw [← Array.length_toList]; exact z1, fun j e y he hy => (zeroB_rp (z2 j e y he (by simpa using hy)) w G1.F).1, fun e he => by
      obtain ⟨j, hj⟩ := List.getElem?_of_mem he
      have := lt_of_get hj
      exact (zeroB_rp (z2 j e _ hj (List.getElem?_eq_getElem (by omega))) w G1.F).2.1, fun j b _ hb => (by cases hb), fun _ _ => List.nodup_nil, fun i j b _ _ hb => (by cases hb)⟩
    have hxn := k1.xn
    obtain ⟨m1, m2, m3⟩ := List.nodup_append.1 hxn
    obtain ⟨c', tf', q1, q2⟩ := fill_snd (xs := (ps.map fun (i, x) => (i, a.eval x)).toList) hc0 hf (by simp [k3]) (by rw [k2, k3]) (fun p iv ix ts h1 h2 h3 => by
      obtain ⟨x, y1, y2, y3⟩ := k4 p iv ts h1 h3
      simp only [Array.toList_map, List.getElem?_map, y1, Option.map_some, Option.some.injEq] at h2
      subst h2
      exact ⟨rfl, y2⟩) m1 (fun b _ hb => hb)
    have hbuilt : P.built t (ps.map fun (i, x) => (i, a.eval x)).toList = some c' := by
      unfold Program.built
      rw [hty.hi, hty.hu]
      simp only [hty.zero]
      rw [places_eq hE (by rw [hm]; exact hpl)]
      exact q1
    have hex : (execOp a.eval o).run P w = .ok (.value (.agg c')) w := ex_of (S := Instr.build t (ps.map fun (i, x) => (i, a.eval x))) (by unfold execOp; rw [ho]) (run_build w t _ c' hbuilt)
    have hRp : Rp w G1.F (.agg cs) c'.toList ((List.range cs.length).flatMap tf') := .agg (by rw [Array.length_toList]; exact q2.len) (fun j e he => plain_nagg (q2.pl e (List.mem_of_getElem? he))) (fun j e y he hy => q2.rp j e y he (by simpa using hy))
    have hRp2 := hRp.st2 (k + 1)
    have hdrop : Rel W0 N G1 g1 a w ((List.range cs.length).flatMap tf') := k1.drop (fun b hb => by
      obtain ⟨j, hj, hb⟩ := of_mem_flat hb
      rcases q2.sub j b hj hb with h1 | h1
      · exact h1.elim
      · exact List.mem_append_left _ h1) (nodup_flat q2.nd q2.dj)
    exact Yl.value hex (put_fin hdrop hdn (rp_rv hRp2) ⟨[], by simp⟩ (fun s nl sz dp l e => by cases e) r2)
  · exact (runs_fail r2).elim
end
end Go.Proofs.Ytjihjjbieeofdaa.T
namespace Go.Proofs.Ytjihjjbieeofdaa.T
set_option linter.unusedSimpArgs false
set_option linter.unusedVariables false
open Go Go.RowKit
set_option linter.unusedVariables false
set_option linter.unusedSimpArgs false
section
variable {P : Program} {W0 : Bs} {N : Nat} {G G' : Gh} {g g' : Nat → AV} {a a' : Act} {w w' : World} {X X' : List Nat} {L : Lg} {k d : Nat} {E : Env} {o : Oper} {Imp : Nat → List AV → AV → Prop}
/-- What is appended, in memory: elements with their cells. -/
structure Src (w : World) (F : Nat → Prop) (z : Nat) (dp : Bool) (lx : List AV) (x : Value) (cs : Nat → List Value) (tf : Nat → List Nat) : Prop where
  val : ∃ A cap, x = .slice A lx.length cap ∧ (lx ≠ [] → ∃ b off, A = some ⟨b, off, none⟩ ∧ ∀ j q u, j < lx.length → (cs j)[q]? = some u → w.cell? ⟨b, off + (j * z + q), none⟩ = some u)
  len : ∀ j, j < lx.length → (cs j).length = z
  rp : ∀ j e, lx[j]? = some e → Rp w F e (cs j) (tf j)
  sc : dp = false → ∀ e ∈ lx, e.scal = true
  nd : ((List.range lx.length).flatMap tf).Nodup
theorem src_fz {F : Nat → Prop} {nil : Option Bool} {sz z : Nat} {dp dp' : Bool} {l : List AV} {x : Value} {ts : List Nat} (h : Rp w F (.sl none nil sz dp' l) [x] ts) (hz : (sz = z ∧ (dp || !dp') = true) ∨ l = []) : ∃ cs, Src w F z dp l x cs (fun _ => []) := by
  cases h with
  | @fz A _ _ _ _ cap b off cs hc hm hn h0 hA hl hr hd hw =>
    refine ⟨cs, ⟨A, cap, rfl, fun hne => ⟨b, off, (hA hne).1, fun j q u hj hu => ?_⟩⟩, fun j hj => ?_, fun j e he => hr j e he, fun hdp e_ he_ => ?_, by rw [flat_nil]; exact List.nodup_nil⟩
    · rcases hz with ⟨e, _⟩ | e
      · subst e; exact hw j q u hj hu
      · exact absurd e hne
    · rcases hz with ⟨e, _⟩ | e
      · rw [hl j hj, e]
      · subst e; simp at hj
    · rcases hz with ⟨_, e⟩ | e
      · refine hd ?_ e_ he_
        cases dp' <;> simp_all
      · subst e; cases he_
theorem flat_cells {z : Nat} {cs : Nat → List Value} : ∀ {m : Nat}, (∀ j, j < m → (cs j).length = z) → ((List.range m).flatMap cs).length = m * z ∧ (∀ j q, j < m → q < z → ((List.range m).flatMap cs)[j * z + q]? = (cs j)[q]?) ∧ ∀ (idx : Nat) (u : Value), ((List.range m).flatMap cs)[idx]? = some u → ∃ j q, idx = j * z + q ∧ j < m ∧ (cs j)[q]? = some u
  | 0, _ => ⟨by simp, fun j q hj => by omega, fun idx u h => by simp at h⟩
  | m + 1, h => by
    obtain ⟨h1, h2, h3⟩ := flat_cells (m := m) (fun j hj => h j (by omega))
    have hm := h m (by omega)
    rw [List.range_succ, List.flatMap_append]
    have e : [m].flatMap cs = cs m := by simp
    rw [e]
    refine ⟨by rw [List.length_append, h1, hm, Nat.add_mul, Nat.one_mul], fun j q hj hq => ?_, fun idx u hu => ?_⟩
    · by_cases hjm : j < m
      · have : j * z + q < m * z := by
          calc j * z + q < j * z + z := by omega
            _ = (j + 1) * z := by rw [Nat.add_mul, Nat.one_mul]
            _ ≤ m * z := Nat.mul_le_mul_right _ hjm
        rw [List.getElem?_append_left (by rw [h1]; exact this)]
        exact h2 j q hjm hq
      · have : j = m := by omega
        subst this
        rw [List.getElem?_append_right (by rw [h1]; omega), h1]
        congr 1; omega
    · by_cases hi : idx < m * z
      · rw [List.getElem?_append_left (by rw [h1]; exact hi)] at hu
        obtain ⟨j, q, a1, a2, a3⟩ := h3 idx u hu
        exact ⟨j, q, a1, by omega, a3⟩
      · rw [List.getElem?_append_right (by rw [h1]; omega), h1] at hu
        exact ⟨m, idx - m * z, by omega, by omega, hu⟩
theorem Src.mono {F F' : Nat → Prop} {z : Nat} {dp : Bool} {lx : List AV} {x : Value} {cs : Nat → List Value} {tf : Nat → List Nat} (h : Src w F z dp lx x cs tf) (hF : ∀ b, F b → F' b) : Src w F' z dp lx x cs tf := ⟨h.val, h.len, fun j e he => (h.rp j e he).mono hF, h.sc, h.nd⟩
/-- Out of a slice that is held: its elements; frozen; or as they are. -/
theorem src_own {F : Nat → Prop} {s : Nat} {nil : Option Bool} {sz z : Nat} {dp' : Bool} {l : List AV} {x : Value} {ts : List Nat} (h : Rp w F (.sl (some s) nil sz dp' l) [x] ts) (hnd : ts.Nodup) (hz : sz = z ∨ nil = some true) : (∀ F' : Nat → Prop, (∀ b, F b → F' b) → (∀ b ∈ ts, F' b) → ∀ dp, (dp = false → dp' = false) → ∃ cs, Src w F' z dp (if dp' then AV.fzL l else l) x cs (fun _ => [])) ∧ (∀ dp, (dp = false → dp' = false) → ∃ cs tf, Src w F z dp l x cs tf ∧ ∀ b ∈ (List.range l.length).flatMap tf, b ∈ ts) := by
  have hlen' : ∀ {dp' : Bool} {l : List AV}, (if dp' then AV.fzL l else l).length = l.length := by
    intro dp' l; split
    · exact fzL_len l
    · rfl
  cases h with
  | @own0 _ _ _ dp' hn =>
    have e : (if dp' then AV.fzL [] else ([] : List AV)) = [] := by cases dp' <;> rfl
    rw [e]
    exact ⟨fun F' _ _ dp _ => ⟨fun _ => [], ⟨⟨_, _, rfl, fun h => absurd rfl h⟩, fun j hj => by simp at hj, fun j e he => by simp at he, fun _ e he => (by cases he), List.nodup_nil⟩⟩, fun dp _ => ⟨fun _ => [], fun _ => [], ⟨⟨_, _, rfl, fun h => absurd rfl h⟩, fun j hj => by simp at hj, fun j e he => by simp at he, fun _ e he => (by cases he), List.nodup_nil⟩, fun b hb => by cases hb⟩⟩
  | @own1 _ _ _ _ dp' hn =>
    have e : (if dp' then AV.fzL [] else ([] : List AV)) = [] := by cases dp' <;> rfl
    rw [e]
    exact ⟨fun F' _ _ dp _ => ⟨fun _ => [], ⟨⟨_, _, rfl, fun h => absurd rfl h⟩, fun j hj => by simp at hj, fun j e he => by simp at he, fun _ e he => (by cases he), List.nodup_nil⟩⟩, fun dp _ => ⟨fun _ => [], fun _ => [], ⟨⟨_, _, rfl, fun h => absurd rfl h⟩, fun j hj => by simp at hj, fun j e he => by simp at he, fun _ e he => (by cases he), List.nodup_nil⟩, fun b hb => by cases hb⟩⟩
  | @own b cap arr ty _ _ _ _ _ cs tf hn hh hc hm hs hl hr hw hd =>
    have hz1 : sz = z := hz.resolve_right hn
    subst hz1
    obtain ⟨nd1, nd2⟩ := List.nodup_cons.1 hnd
    have hcell : ∀ j q u, j < l.length → (cs j)[q]? = some u → w.cell? ⟨b, 0 + (j * sz + q), none⟩ = some u := fun j q u hj hu => by
      rw [cell_of_block hh, Nat.zero_add]; exact hw j q u hj hu
    refine ⟨fun F' hF ht dp hdd => ⟨cs, ⟨⟨some ⟨b, 0, none⟩, cap, by rw [hlen'], fun _ => ⟨b, 0, rfl, fun j q u hj hu => hcell j q u (by rw [hlen'] at hj; exact hj) hu⟩⟩, fun j hj => hl j (by rw [hlen'] at hj; exact hj), fun j e he => ?_, fun hdp e he => ?_, by rw [flat_nil]; exact List.nodup_nil⟩⟩, fun dp hdd => ⟨cs, tf, ⟨⟨some ⟨b, 0, none⟩, cap, rfl, fun _ => ⟨b, 0, rfl, hcell⟩⟩, hl, hr, fun hdp => hd (hdd hdp), nd2⟩, fun b hb => List.mem_cons_of_mem _ hb⟩⟩
    · cases dp' with
      | true =>
        simp only [if_true] at he
        obtain ⟨e', he', rfl⟩ := fzL_get he
        exact (hr j e' he').toFz hF (fun b hb => ht b (List.mem_cons_of_mem _ (mem_flat (lt_of_get he') hb)))
      | false =>
        simp only [Bool.false_eq_true, if_false] at he
        exact (scal_any (hr j e he) (hd rfl e (List.mem_of_getElem? he)) w F').1
    · have hdp' := hdd hdp
      subst hdp'
      exact hd rfl e he
/-- Out of a frozen slice of scalars: nobody need be frozen. -/
theorem src_scal {F : Nat → Prop} {s : Nat} {nil : Option Bool} {sz z : Nat} {l : List AV} {x : Value} (h : Rp w F ((AV.sl (some s) nil sz false l).fz) [x] []) (hz : sz = z ∨ nil = some true) : ∃ cs, ∀ (F' : Nat → Prop) (dp : Bool), Src w F' z dp l x cs (fun _ => []) := by
  have h : Rp w F (.sl none nil sz false l) [x] [] := h
  cases h with
  | @fz A _ _ _ _ cap b off cs hc hm hn h0 hA hl hr hd hw =>
    have hz1 : l ≠ [] → sz = z := fun hne => hz.resolve_right (fun e => hne (h0 ((hn true e).1 rfl)).1)
    refine ⟨cs, fun F' dp => ⟨⟨A, cap, rfl, fun hne => ⟨b, off, (hA hne).1, fun j q u hj hu => by rw [← hz1 hne]; exact hw j q u hj hu⟩⟩, fun j hj => by rw [hl j hj]; exact hz1 (fun e => by subst e; simp at hj), fun j e he => (scal_any (hr j e he) (hd rfl e (List.mem_of_getElem? he)) w F').1, fun _ => hd rfl, by rw [flat_nil]; exact List.nodup_nil⟩⟩
theorem src_fz2 {F : Nat → Prop} {s : Nat} {nil : Option Bool} {sz z : Nat} {dp dp' : Bool} {l : List AV} {x : Value} {c : AV} {F0 : Nat → Prop} {tp : List Nat} (h : Rp w F c.fz [x] []) (e : c = .sl (some s) nil sz dp' l) (hz : sz = z ∨ nil = some true) (hdd : dp = false → dp' = false) (h0' : Rp w F0 (.sl (some s) nil sz dp' l) [x] tp) : ∃ cs, Src w F z dp (if dp' then AV.fzL l else l) x cs (fun _ => []) := by
  subst e
  cases dp' with
  | true =>
    have h : Rp w F (.sl none nil sz true (AV.fzL l)) [x] [] := h
    refine src_fz (sz := sz) (dp' := true) h ?_
    cases dp with
    | false => cases hdd rfl
    | true =>
      rcases hz with hz | hz
      · exact .inl ⟨hz, rfl⟩
      · refine .inr ?_
        subst hz
        cases h0' with
        | own0 => rfl
        | own1 hn => exact absurd rfl hn
        | own hn => exact absurd rfl hn
  | false =>
    have h : Rp w F (.sl none nil sz false l) [x] [] := h
    refine src_fz (sz := sz) (dp' := false) h ?_
    rcases hz with hz | hz
    · exact .inl ⟨hz, by cases dp <;> rfl⟩
    · refine .inr ?_
      subst hz
      cases h0' with
      | own0 => rfl
      | own1 hn => exact absurd rfl hn
      | own hn => exact absurd rfl hn
theorem Rel.sub (h : Rel W0 N G g a w X) {A B : List Nat} (hX : X = A ++ B) {A' : List Nat} (hs : ∀ b ∈ A', b ∈ A) (hn : A'.Nodup) : Rel W0 N G g a w (A' ++ B) := by
  subst hX
  obtain ⟨n1, n2, n3⟩ := List.nodup_append.1 h.xn
  refine h.drop (fun b hb => ?_) (List.nodup_append.2 ⟨hn, n2, fun x hx y hy => n3 x (hs x hx) y hy⟩)
  rcases List.mem_append.1 hb with hb | hb
  · exact List.mem_append_left _ (hs b hb)
  · exact List.mem_append_right _ hb
theorem appL_snd (h : Rel W0 N G g a w X) {z : Nat} {dp : Bool} {x : Operand} (hx : opOk N x) {lx : List AV} (hr : Runs Imp (appL E d z dp x) g lx g' L) : ∃ G' cs tf, Rel W0 N G' g' a w ((List.range lx.length).flatMap tf ++ X) ∧ Src w G'.F z dp lx (a.eval x) cs tf ∧ Mv G G' g g' := by
  obtain ⟨v, g1, L1, L2, r1, r2, _⟩ := Runs.bind_inv hr
  obtain ⟨e1, ts, hv, htk⟩ := rdo_snd h hx r1
  subst e1
  split at r2
  · split at r2
    · rename_i hz
      obtain ⟨rfl, rfl⟩ := runs_ret r2
      have hv1 : Rp w G.F _ [a.eval x] ts := hv
      have hts := hv1.noTok rfl (fun l h => by cases h)
      obtain ⟨cs, hs⟩ := src_fz hv1 hz
      exact ⟨G, cs, fun _ => [], by rw [flat_nil]; exact h, hs, Mv.refl G _⟩
    · exact (runs_fail r2).elim
  · rename_i s nil sz dp' l
    split at r2
    · rename_i hz
      split at r2
      · rename_i hdp
        have hdd : dp = false → dp' = false := fun e => by rw [hdp] at e; cases e
        split at r2
        · rename_i t
          have ht := hx t rfl
          have hg : g1 t = .sl (some s) nil sz dp' l := by
            obtain ⟨_, q1⟩ := runs_rd r1
            obtain ⟨q2, _⟩ := runs_ret q1
            exact q2.symm
          have hsl := h.sl t ht
          rw [hg] at hsl
          have hRp : Rp w G.F (.sl (some s) nil sz dp' l) [a.tmps.getD t undef] (G.tk t) := hsl
          split at r2
          · obtain ⟨_, r3⟩ := runs_upd r2
            obtain ⟨rfl, rfl⟩ := runs_ret r3
            obtain ⟨G', k1, k2, k3, k4, _⟩ := h.takeS ht
            obtain ⟨cs, tf, q1, q2⟩ := (src_own hRp (h.tn t) hz).2 dp hdd
            exact ⟨G', cs, tf, k1.sub rfl q2 q1.nd, q1.mono (fun b hb => by rw [k2]; exact hb), ⟨fun b hb => (by rw [k2]; exact hb), k3, k4, Less.upd rfl⟩⟩
          · obtain ⟨_, r3⟩ := runs_upd r2
            obtain ⟨rfl, rfl⟩ := runs_ret r3
            obtain ⟨G', k1, k2, k3, k4, k5⟩ := h.fzS ht (v' := (AV.sl (some s) nil sz dp' l).fz) (RV.of (hRp.toFz (fun b hb => .inl hb) (fun b hb => .inr hb)) (fz_flat rfl)) (fz_own1 _)
            obtain ⟨cs, q1⟩ := (src_own hRp (h.tn t) hz).1 G'.F k2 k3 dp hdd
            exact ⟨G', cs, fun _ => [], by rw [flat_nil]; exact k1, q1, ⟨k2, k4, k5, Less.upd (fz_pst1 rfl)⟩⟩
        · rename_i c
          obtain ⟨rfl, rfl⟩ := runs_ret r2
          obtain ⟨hq, _⟩ := runs_ret r1
          have hl : l = [] ∧ c = .slice none 0 0 := by
            unfold ofVal at hq
            split at hq <;> first | (cases hq; exact ⟨rfl, rfl⟩) | cases hq
          obtain ⟨rfl, rfl⟩ := hl
          exact ⟨G, fun _ => [], fun _ => [], h, ⟨⟨none, 0, rfl, fun h => absurd rfl h⟩, fun j hj => by simp at hj, fun j e he => by simp at he, fun _ e he => (by cases he), List.nodup_nil⟩, Mv.refl G _⟩
        · exact (runs_fail r2).elim
      · split at r2
        · exact (runs_fail r2).elim
        · rename_i hdp hdp'
          obtain ⟨rfl, rfl⟩ := runs_ret r2
          have hdp' : dp' = false := by simpa using hdp'
          subst hdp'
          have hv1 : Rp w G.F (.sl (some s) nil sz false lx) [a.eval x] ts := hv
          have hv2 := hv1.toFz (F' := fun b => G.F b ∨ ∃ l, b ∈ G.tk l) (fun b hb => .inl hb) (fun b hb => .inr (htk b hb))
          obtain ⟨cs, q1⟩ := src_scal hv2 hz
          exact ⟨G, cs, fun _ => [], by rw [flat_nil]; exact h, q1 G.F dp, Mv.refl G _⟩
    · exact (runs_fail r2).elim
  · rename_i r ix ss
    obtain ⟨p, g2, L3, L4, r3, r4, _⟩ := Runs.bind_inv r2
    obtain ⟨e2, hp⟩ := rslP_snd r3
    subst e2
    obtain ⟨s0, nl0, sz0, dp0, l0, e5⟩ := hp.own
    rw [e5] at r4
    dsimp only at r4
    have hxv := hv.2.2 s0 nl0 sz0 dp0 l0 p.2 (by rw [← e5]; exact hp)
    have hfl : ∀ n, r ≠ loc n 999 := fun n => loc999 h hp hxv hv.2.1
    obtain ⟨_, u0, hu0, hux, hrp⟩ := h.rootOk hp hxv hv.2.1
    obtain ⟨vp, tp, pre, post, q1, q2, q3, _⟩ := path_rep hp hrp
    rw [q1] at hux
    cases hux
    rw [e5] at q2
    have htpn : tp.Nodup := by
      have := h.tn r
      rw [q3, List.append_assoc] at this
      exact (List.nodup_append.1 (List.nodup_append.1 this).2.1).1
    split at r4
    · rename_i hz
      split at r4
      · rename_i hdp
        have hdd : dp = false → dp0 = false := fun e => by rw [hdp] at e; cases e
        obtain ⟨_, r5⟩ := runs_upd r4
        obtain ⟨rfl, rfl⟩ := runs_ret r5
        obtain ⟨G', k1, k2, k3, k4, k5⟩ := h.fzP hp hxv hv.2.1 hfl
        rw [← e5]
        obtain ⟨cs, w1⟩ := src_fz2 (z := z) (dp := dp) k2 e5 hz hdd q2
        exact ⟨G', cs, fun _ => [], by rw [flat_nil]; exact k1, w1, ⟨k3, k4, k5, Less.upd (rb_pst hp (fz_pst1 (by rw [e5]; rfl)))⟩⟩
      · split at r4
        · exact (runs_fail r4).elim
        · rename_i hdp hdp'
          obtain ⟨rfl, rfl⟩ := runs_ret r4
          have hdp' : dp0 = false := by simpa using hdp'
          subst hdp'
          have hv2 := q2.toFz (F' := fun b => G.F b ∨ b ∈ tp) (fun b hb => .inl hb) (fun b hb => .inr hb)
          obtain ⟨cs, w1⟩ := src_scal hv2 hz
          exact ⟨G, cs, fun _ => [], by rw [flat_nil]; exact h, w1 G.F dp, Mv.refl G _⟩
    · exact (runs_fail r4).elim
  · exact (runs_fail r2).elim
end
end Go.Proofs.Ytjihjjbieeofdaa.T
namespace Go.Proofs.Ytjihjjbieeofdaa.T
set_option linter.unusedSimpArgs false
set_option linter.unusedVariables false
open Go Go.RowKit
set_option linter.unusedVariables false
set_option linter.unusedSimpArgs false
section
variable {P : Program} {W0 : Bs} {N : Nat} {G G' : Gh} {g g' : Nat → AV} {a a' : Act} {w w' : World} {X X' : List Nat} {L : Lg} {k d : Nat} {E : Env} {o : Oper} {Imp : Nat → List AV → AV → Prop}
theorem appS_snd (h : Rel W0 N G g a w X) {x : Operand} (hx : opOk N x) {s : Nat} {nl : Option Bool} {sz : Nat} {dp : Bool} {l : List AV} (hr : Runs Imp (appS k x) g (.sl (some s) nl sz dp l) g' L) : ∃ G' tc, Rel W0 N G' g' a w (tc ++ X) ∧ Rp w G'.F (.sl (some s) nl sz dp l) [a.eval x] tc ∧ Mv G G' g g' := by
  cases x with
  | tmp t =>
    obtain ⟨_, r1⟩ := runs_rd hr
    have ht := hx t rfl
    split at r1
    · rename_i hg
      obtain ⟨e1, e2⟩ := runs_ret r1
      cases e1
      subst e2
      have hsl := h.sl t ht
      rw [hg] at hsl
      have hRp : Rp w G.F _ [a.tmps.getD t undef] (G.tk t) := hsl
      have hev : a.eval (.tmp t) = a.tmps.getD t undef := rfl
      rw [hev]
      refine ⟨G, [], h, ?_, Mv.refl G _⟩
      generalize a.tmps.getD t undef = u at hRp ⊢
      generalize G.tk t = tt at hRp
      cases hRp with
      | fz hc hm hn h0 =>
        have hA := (hn true rfl).1 rfl
        subst hA
        obtain ⟨_, hc0⟩ := h0 rfl
        subst hc0
        exact .own0 (by simp)
    · exact (runs_fail r1).elim
    · obtain ⟨G', ts', k1, k2, k3, k4⟩ := tkv_snd h ht r1
      exact ⟨G', ts', k1, k2, k3⟩
  | const c =>
    unfold appS at hr
    split at hr
    · rename_i e
      cases e
    · rename_i e
      cases e
      obtain ⟨e1, e2⟩ := runs_ret hr
      cases e1
      subst e2
      exact ⟨G, [], h, .own0 (by simp), Mv.refl G _⟩
    · exact (runs_fail hr).elim
  | global _ => exact (runs_fail hr).elim
  | func _ => exact (runs_fail hr).elim
theorem run_append_zero {t ty e : TypeId} {i : TypeInfo} (ht : P.underlying t = some (.slice e)) (hi : P.info? e = some i) (base A : Option Addr) (n cap c : Nat) (hn : n ≤ cap) : (Builtin.append_ #[t, t] ty #[.slice base n cap, .slice A 0 c]).run P w = .ok (.slice base n cap) w := by
  cases base <;> cases A <;> simp [Builtin.append_, run_underlying ht, sizeOf, typeInfo, hi, Builtin.lenOf, hn, Builtin.firstCells, loadCells, loadCellsFrom, storeCells]
theorem run_append_fits {t ty e e' : TypeId} {i : TypeInfo} (ht : P.underlying t = some (.slice e)) (hi : P.info? e = some i) {g n cap : Nat} {cur : Array Value} (hg : w.heap[g]? = some (.cells cur e' (0, 0))) {a2 : Addr} {m c : Nat} {news : List Value} (hl : news.length = m * i.size) (hnews : ∀ j u, news[j]? = some u → w.cell? (a2.add j) = some u) (h1 : ∀ u ∈ news, u.oneCell' = true) (hroom : n + m ≤ cap) (hfit : n * i.size + news.length ≤ cur.size) :
    (Builtin.append_ #[t, t] ty #[.slice (some ⟨g, 0, none⟩) n cap, .slice (some a2) m c]).run P w = .ok (.slice (some ⟨g, 0, none⟩) (n + m) cap) (w.setRow g (cur.toList.take (n * i.size) ++ news ++ cur.toList.drop (n * i.size + news.length)).toArray) := by
  have hf := run_firstCells_some (P := P) w i.size m a2 m c news hl hnews
  have hst := run_storeCells_at P g (n * i.size) e' news 0 cur w hg (by simpa using hfit) h1
  simp only [Nat.add_zero] at hst
  simp [Builtin.append_, run_underlying ht, sizeOf, typeInfo, hi, Builtin.lenOf, hroom, hf, Addr.add_lit, hst]
/-- A slice that is held, of the elements of two. -/
theorem own_new {w2 : World} {F : Nat → Prop} {b cap z st : Nat} {arr : Array Value} {ty : TypeId} {nl : Option Bool} {dp : Bool} {l lx : List AV} {cl cx : Nat → List Value} {tl tx : Nat → List Nat} (hn : nl ≠ some true) (hh : w2.heap[b]? = some (.cells arr ty (0, 0))) (hc : l.length + lx.length ≤ cap) (hm : cap ≤ maxLen) (hs : arr.size = cap * z)
    (l1 : ∀ j, j < l.length → (cl j).length = z) (l2 : ∀ j e, l[j]? = some e → Rp w2 F e (cl j) (tl j)) (l3 : ∀ j q u, j < l.length → (cl j)[q]? = some u → arr[j * z + q]? = some u) (l4 : dp = false → ∀ e ∈ l, e.scal = true)
    (x1 : ∀ j, j < lx.length → (cx j).length = z) (x2 : ∀ j e, lx[j]? = some e → Rp w2 F e (cx j) (tx j)) (x3 : ∀ j q u, j < lx.length → (cx j)[q]? = some u → arr[(l.length + j) * z + q]? = some u) (x4 : dp = false → ∀ e ∈ lx, e.scal = true) :
    Rp w2 F (.sl (some st) nl z dp (l ++ lx)) [.slice (some ⟨b, 0, none⟩) (l.length + lx.length) cap] (b :: (List.range (l.length + lx.length)).flatMap fun j => if j < l.length then tl j else tx (j - l.length)) := by
  have hlen : (l ++ lx).length = l.length + lx.length := List.length_append
  rw [← hlen]
  refine .own (cs := fun j => if j < l.length then cl j else cx (j - l.length)) hn hh (by rw [hlen]; exact hc) hm hs (fun j hj => ?_) (fun j e he => ?_) (fun j q u hj hu => ?_) (fun hd e he => ?_)
  · rw [hlen] at hj
    split
    · exact l1 j (by assumption)
    · exact x1 _ (by omega)
  · by_cases h : j < l.length
    · rw [List.getElem?_append_left h] at he
      rw [if_pos h, if_pos h]; exact l2 j e he
    · rw [List.getElem?_append_right (by omega)] at he
      rw [if_neg h, if_neg h]; exact x2 _ e he
  · rw [hlen] at hj
    by_cases h : j < l.length
    · rw [if_pos h] at hu; exact l3 j q u h hu
    · rw [if_neg h] at hu
      have := x3 (j - l.length) q u (by omega) hu
      rwa [show l.length + (j - l.length) = j by omega] at this
  · rcases List.mem_append.1 he with he | he
    · exact l4 hd e he
    · exact x4 hd e he
theorem app_tok {n m : Nat} {tl tx : Nat → List Nat} (h1 : ((List.range n).flatMap tl).Nodup) (h2 : ((List.range m).flatMap tx).Nodup) (h3 : ∀ b ∈ (List.range n).flatMap tl, b ∉ (List.range m).flatMap tx) : ((List.range (n + m)).flatMap fun j => if j < n then tl j else tx (j - n)).Nodup ∧ ∀ b ∈ (List.range (n + m)).flatMap (fun j => if j < n then tl j else tx (j - n)), b ∈ (List.range n).flatMap tl ∨ b ∈ (List.range m).flatMap tx := by
  obtain ⟨a1, a2⟩ := of_nodup_flat h1
  obtain ⟨b1, b2⟩ := of_nodup_flat h2
  refine ⟨nodup_flat (fun j hj => ?_) (fun i j b hi hj hbi hbj => ?_), fun b hb => ?_⟩
  · split
    · exact a1 j (by assumption)
    · exact b1 _ (by omega)
  · split at hbi <;> split at hbj
    · exact a2 i j b (by assumption) (by assumption) hbi hbj
    · exact absurd (mem_flat (by omega) hbj) (h3 b (mem_flat (by assumption) hbi))
    · exact absurd (mem_flat (by omega) hbi) (h3 b (mem_flat (by assumption) hbj))
    · have := b2 (i - n) (j - n) b (by omega) (by omega) hbi hbj; omega
  · obtain ⟨j, hj, hb⟩ := of_mem_flat hb
    split at hb
    · exact .inl (mem_flat (by assumption) hb)
    · exact .inr (mem_flat (by omega) hb)
/-- Growing: one more block. -/
theorem Rel.alloc1 (h : Rel W0 N G g a w X) (o : Obj) (dr : Bool) : ∃ G', Rel W0 N G' g a ((if dr then w.drew else w).alloc o) (w.heap.size :: X) ∧ (∀ b, G.F b → G'.F b) ∧ G'.bx = G.bx := by
  have hb : Below w.heap.size w ((if dr then w.drew else w).alloc o) := by
    cases dr with
    | true => exact (Below.refl _ w).drew.alloc (Nat.le_refl _) o
    | false => exact (Below.refl _ w).alloc (Nat.le_refl _) o
  have hs : ((if dr then w.drew else w).alloc o).heap.size = w.heap.size + 1 := by
    cases dr <;> (show (Array.push _ _).size = _; simp; try rfl)
  have := h.grow hb (ts := [w.heap.size]) (fun _ => False) (fun b hb => by rw [List.mem_singleton.1 hb, hs]; omega) (by simp) (fun b hb => hb.elim)
  exact ⟨_, this, fun b hf => .inl hf, rfl⟩
theorem app_snd (hE : E.tb.okB P = true) (h : Rel W0 N G g a w []) (hn : NoSt (k + 1) g) {c : Call} {s x : Operand} {t : Nat} (ho : o.op = .call c) (hc : c.callee = .builtin .append) (hxs : c.args.toList = [s, x]) (hts : c.argTypes.toList = [t, t]) (hd : o.dst = some d) (hdn : d < N) (hsn : opOk N s) (hx : opOk N x) {i : TI} (hi : elemOf E t = some i)
    (hr : Runs Imp ((appL E d i.size i.dp x).bind fun lx => (appS k s).bind fun c => appR d k i c lx) g () g' L) : Yl P o a w (Fin W0 N g' a o.dst) := by
  rw [hd]
  obtain ⟨lx, g1, L1, L2, r1, r2, _⟩ := Runs.bind_inv hr
  obtain ⟨G1, cx, tx, k1, hsrc, k2⟩ := appL_snd h hx r1
  obtain ⟨cv, g2, L3, L4, r3, r4, _⟩ := Runs.bind_inv r2
  unfold appR at r4
  split at r4
  · rename_i st nl sz dp l
    obtain ⟨G2, tc, q1, q2, q3⟩ := appS_snd k1 hsn r3
    have hn2 := (k2.less.trans q3.less).noSt hn
    have hsrc := hsrc.mono q3.F
    obtain ⟨hsz, r5⟩ := runs_need r4
    obtain ⟨⟨hby, hlen⟩, r6⟩ := runs_need r5
    obtain ⟨e, info, ds, z, hu, hty⟩ := elem_of hE hi
    have hargs : c.args = #[s, x] := by rw [← Array.toList_inj]; exact hxs
    have htys : c.argTypes = #[t, t] := by rw [← Array.toList_inj]; exact hts
    have hex : ∀ v' w', (Builtin.append_ #[t, t] o.type #[a.eval s, a.eval x]).run P w = .ok v' w' → (execOp a.eval o).run P w = .ok (.value v') w' := by
      intro v' w' hrun
      unfold execOp
      rw [ho]
      simp [resolve, hc, hargs, htys, invoke, builtin, hrun]
    obtain ⟨⟨A, capx, hxv, hxc⟩, hxl, hxr, hxsc, hxnd⟩ := hsrc
    have hxn := q1.xn
    obtain ⟨n1, n2, n3⟩ := List.nodup_append.1 hxn
    rw [List.append_nil] at n2 n3
    rw [List.append_nil] at q1
    -- what is there, ars elements
    obtain ⟨hA, capS, hsv, hcapS⟩ := rp_len q2
    obtain ⟨cl, tl, l1, l2, l4, ltc, lnd, lcell⟩ : ∃ (cl : Nat → List Value) (tl : Nat → List Nat), (∀ j, j < l.length → (cl j).length = i.size) ∧ (∀ j e, l[j]? = some e → Rp w G2.F e (cl j) (tl j)) ∧ (i.dp = false → ∀ e ∈ l, e.scal = true) ∧ (∀ b ∈ (List.range l.length).flatMap tl, b ∈ tc) ∧ ((List.range l.length).flatMap tl).Nodup ∧
        ((l = [] ∧ tc = [] ∧ ((a.eval s = .slice none 0 0 ∧ nl ≠ some false) ∨ ∃ ad, a.eval s = .slice (some ad) 0 0 ∧ nl ≠ some true)) ∨ ∃ b cap arr ty, a.eval s = .slice (some ⟨b, 0, none⟩) l.length cap ∧ nl ≠ some true ∧ sz = i.size ∧ w.heap[b]? = some (.cells arr ty (0, 0)) ∧ l.length ≤ cap ∧ cap ≤ maxLen ∧ arr.size = cap * i.size ∧ (∀ j q u, j < l.length → (cl j)[q]? = some u → arr[j * i.size + q]? = some u) ∧ tc = b :: (List.range l.length).flatMap tl) := by
      generalize a.eval s = sv at q2
      generalize tc = tc' at q2 n1
      cases q2 with
      | own0 hn0 => exact ⟨fun _ => [], fun _ => [], fun j hj => by simp at hj, fun j e he => by simp at he, fun _ e he => (by cases he), fun b hb => (by cases hb), List.nodup_nil, .inl ⟨rfl, rfl, .inl ⟨rfl, hn0⟩⟩⟩
      | own1 hn0 => exact ⟨fun _ => [], fun _ => [], fun j hj => by simp at hj, fun j e he => by simp at he, fun _ e he => (by cases he), fun b hb => (by cases hb), List.nodup_nil, .inl ⟨rfl, rfl, .inr ⟨_, rfl, hn0⟩⟩⟩
      | @own b cap arr ty _ _ _ _ _ cs tf hn hh hc hm hs hl hr hw hd =>
        obtain ⟨e1, e2⟩ := hsz.resolve_right hn
        subst e1
        exact ⟨cs, tf, hl, hr, fun hdp => hd (e2.trans hdp), fun b hb => List.mem_cons_of_mem _ hb, (List.nodup_cons.1 n1).2, .inr ⟨b, cap, arr, ty, rfl, hn, rfl, hh, hc, hm, hs, hw, rfl⟩⟩
    by_cases hm : lx.length = 0
    · -- nothing is appended
      have hlx : lx = [] := List.eq_nil_of_length_eq_zero hm
      subst hlx
      have hrun := run_append_zero (P := P) (w := w) (ty := o.type) hu hty.hi hA A l.length capS capx hcapS
      rw [← hsv] at hrun
      have hxv' : a.eval x = .slice A 0 capx := hxv
      rw [← hxv'] at hrun
      refine Yl.value (hex _ _ hrun) (put_fin q1 hdn (td := tc) (v := .sl (some (k + 1)) (nilA nl 0) i.size i.dp (l ++ [])) ?_ ⟨_, rfl⟩ (fun s' nl' sz' dp' l' e0 l2' => by cases e0; exact hn2 l2') r6)
      rw [List.append_nil]
      show Rp w G2.F (.sl (some (k + 1)) nl i.size i.dp l) [a.eval s] tc
      rcases lcell with ⟨rfl, htc0, hs0⟩ | ⟨b, cap, arr, ty, hs0, hnn, hsz0, hh, hlc, hcm, has, hw, htc⟩
      · rw [htc0]
        rcases hs0 with ⟨hs0, hn0⟩ | ⟨ad, hs0, hn0⟩
        · rw [hs0]; exact .own0 hn0
        · rw [hs0]; exact .own1 hn0
      · rw [hs0, htc]
        exact .own hnn hh hlc hcm has l1 l2 hw l4
    · have hne : lx ≠ [] := fun e => hm (by rw [e]; rfl)
      obtain ⟨b2, off2, hA2, hxcell⟩ := hxc hne
      subst hA2
      obtain ⟨f1, f2, f3⟩ := flat_cells hxl
      generalize hnews : (List.range lx.length).flatMap cx = news at f1 f2 f3
      have hnewsc : ∀ j u, news[j]? = some u → w.cell? ((⟨b2, off2, none⟩ : Addr).add j) = some u := by
        intro idx u hu2
        obtain ⟨j, q, rfl, hj, hq⟩ := f3 idx u hu2
        rw [Addr.add_lit]
        exact hxcell j q u hj hq
      have hone : ∀ u ∈ news, u.oneCell' = true := by
        intro u hu2
        rw [← hnews] at hu2
        obtain ⟨j, hj, hu3⟩ := List.mem_flatMap.1 hu2
        have hj := List.mem_range.1 hj
        exact (hxr j _ (List.getElem?_eq_getElem hj)).cellsOne u hu3
      have hnil : nilA nl lx.length = some false := by unfold nilA; rw [if_neg hm]
      rw [hnil] at r6
      have hb63 : l.length + lx.length ≤ maxLen := by unfold maxLen; omega
      have hpos := hty.pos
      have hzs : z.cells.size = i.size := hty.zn
      obtain ⟨o1, o2, o3⟩ := flat_cells l1
      generalize holds : (List.range l.length).flatMap cl = olds at o1 o2 o3
      -- growth, in whatever form the slice was
      have grow : ∀ cap0 : Nat, (Builtin.append_ #[t, t] o.type #[a.eval s, a.eval x]).run P w = .ok (.slice (some ⟨w.heap.size, 0, none⟩) (l.length + lx.length) (grownCap w (l.length + lx.length) cap0 e)) (w.drew.alloc (.cells (olds.toArray ++ news.toArray ++ Builtin.zeroCells z.cells (grownCap w (l.length + lx.length) cap0 e - (l.length + lx.length))) e)) → Yl P o a w (Fin W0 N g' a (some d)) := by
        intro cap0 hrun
        have hge := grownCap_ge w (l.length + lx.length) cap0 e
        have hle := grownCap_le_maxLen w (l.length + lx.length) cap0 e hb63
        generalize grownCap w (l.length + lx.length) cap0 e = ncap at hrun hge hle
        obtain ⟨G3, w1, w2, w3⟩ := q1.alloc1 (.cells (olds.toArray ++ news.toArray ++ Builtin.zeroCells z.cells (ncap - (l.length + lx.length))) e) true
        simp only [if_true] at w1
        generalize hW : w.drew.alloc (.cells (olds.toArray ++ news.toArray ++ Builtin.zeroCells z.cells (ncap - (l.length + lx.length))) e) = WW at hrun w1
        have hWo : ∀ b, b < w.heap.size → WW.heap[b]? = w.heap[b]? := fun b hb => by rw [← hW]; exact Below.heap_alloc w.drew _ b hb
        have hWn : WW.heap[w.heap.size]? = some (.cells (olds.toArray ++ news.toArray ++ Builtin.zeroCells z.cells (ncap - (l.length + lx.length))) e (0, 0)) := by
          rw [← hW]; show (w.heap.push _)[w.heap.size]? = _; simp
        have mvl : ∀ {e' : AV} {cs' : List Value} {ts' : List Nat}, Rp w G2.F e' cs' ts' → (∀ b ∈ ts', b ∈ tc ∨ b ∈ (List.range lx.length).flatMap tx) → Rp WW G3.F e' cs' ts' := fun hr' ht => hr'.move w2 (fun b hf => hWo b (q1.F b hf)) (fun b hb => hWo b (q1.xb b (List.mem_append.2 (ht b hb))).2.1)
        obtain ⟨tk1, tk2⟩ := app_tok lnd hxnd (fun b hb hb2 => n3 b (ltc b hb) b hb2 rfl)
        have hlist : (olds.toArray ++ news.toArray ++ Builtin.zeroCells z.cells (ncap - (l.length + lx.length))).toList = olds ++ (news ++ (Builtin.zeroCells z.cells (ncap - (l.length + lx.length))).toList) := by simp
        have hnewRp := own_new (w2 := WW) (F := G3.F) (st := k + 1) (nl := some false) (dp := i.dp) (cap := ncap) (z := i.size) (l := l) (lx := lx) (cl := cl) (cx := cx) (tl := tl) (tx := tx) (by simp) hWn hge hle (by
            simp only [Array.size_append, List.size_toArray, size_zeroCells, hzs, o1, f1, ← Nat.add_mul]
            congr 1; omega) l1 (fun j e' he' => mvl (l2 j e' he') (fun b hb => .inl (ltc b (mem_flat (lt_of_get he') hb)))) (fun j q u hj hq => by
            have hqz : q < i.size := by have := lt_of_get hq; rw [l1 j hj] at this; exact this
            rw [← Array.getElem?_toList, hlist, List.getElem?_append_left (by rw [o1]; calc j * i.size + q < j * i.size + i.size := by omega
              _ = (j + 1) * i.size := by rw [Nat.add_mul, Nat.one_mul]
              _ ≤ l.length * i.size := Nat.mul_le_mul_right _ hj), o2 j q hj hqz]
            exact hq) l4 hxl (fun j e' he' => mvl (hxr j e' he') (fun b hb => .inr (mem_flat (lt_of_get he') hb))) (fun j q u hj hq => by
            have hqz : q < i.size := by have := lt_of_get hq; rw [hxl j hj] at this; exact this
            have e9 : (l.length + j) * i.size + q = l.length * i.size + (j * i.size + q) := by rw [Nat.add_mul]; omega
            rw [← Array.getElem?_toList, hlist, e9, List.getElem?_append_right (by rw [o1]; omega), o1, Nat.add_sub_cancel_left, List.getElem?_append_left (by rw [f1]; calc j * i.size + q < j * i.size + i.size := by omega
              _ = (j + 1) * i.size := by rw [Nat.add_mul, Nat.one_mul]
              _ ≤ lx.length * i.size := Nat.mul_le_mul_right _ hj), f2 j q hj hqz]
            exact hq) hxsc
        have hsub := w1.sub (A := w.heap.size :: (tc ++ (List.range lx.length).flatMap tx)) (B := []) (by simp) (A' := w.heap.size :: (List.range (l.length + lx.length)).flatMap fun j => if j < l.length then tl j else tx (j - l.length)) (fun b hb => by
            rcases List.mem_cons.1 hb with rfl | hb
            · exact List.mem_cons_self
            · rcases tk2 b hb with h1 | h1
              · exact List.mem_cons_of_mem _ (List.mem_append_left _ (ltc b h1))
              · exact List.mem_cons_of_mem _ (List.mem_append_right _ h1)) (List.nodup_cons.2 ⟨fun hb => by
              rcases tk2 _ hb with h1 | h1
              · have := (q1.xb _ (List.mem_append_left _ (ltc _ h1))).2.1; omega
              · have := (q1.xb _ (List.mem_append_right _ h1)).2.1; omega, tk1⟩)
        exact Yl.value (hex _ _ hrun) (put_fin hsub hdn (v := .sl (some (k + 1)) (some false) i.size i.dp (l ++ lx)) hnewRp ⟨[], rfl⟩ (fun s' nl' sz' dp' l' e0 l2' => by cases e0; exact hn2 l2') r6)
      rcases lcell with ⟨rfl, htc0, hs0⟩ | ⟨b, cap, arr, ty, hs0, hnn, hsz0, hh, hlc, hcm, has, hw, htc⟩
      · have hold0 : olds = [] := by rw [← holds]; rfl
        rcases hs0 with ⟨hs0, hn0⟩ | ⟨ad, hs0, hn0⟩
        · refine grow 0 ?_
          have := run_append_nil (P := P) w t o.type e info z hu hty.hi hty.zero ⟨b2, off2, none⟩ lx.length capx news (by rw [f1, hty.size]) hnewsc (by omega) (by omega) (by rw [hty.bytes]; simp only [List.length_nil, Nat.zero_add] at hby; omega)
          rw [hs0, hxv, hold0]
          simpa using this
        · refine grow 0 ?_
          have := run_append_grow (P := P) w t o.type e info z hu hty.hi hty.zero ad 0 0 [] (by simp) (fun j v hv => by simp at hv) ⟨b2, off2, none⟩ lx.length capx news (by rw [f1, hty.size]) hnewsc (by omega) (by omega) (growslice_fits (by omega) (by rw [hty.bytes]; simp only [List.length_nil, Nat.zero_add] at hby ⊢; omega))
          rw [hs0, hxv, hold0]
          simpa using this
      · by_cases hroom : l.length + lx.length ≤ cap
        · -- in place
          have hfit : l.length * info.size + news.length ≤ arr.size := by
            rw [f1, hty.size, has, ← Nat.add_mul]; exact Nat.mul_le_mul_right _ hroom
          have hrun := run_append_fits (P := P) (w := w) (ty := o.type) hu hty.hi hh (a2 := ⟨b2, off2, none⟩) (m := lx.length) (c := capx) (news := news) (by rw [f1, hty.size]) hnewsc hone hroom hfit
          rw [← hs0, ← hxv] at hrun
          generalize hW : w.setRow b (arr.toList.take (l.length * info.size) ++ news ++ arr.toList.drop (l.length * info.size + news.length)).toArray = WW at hrun
          have hbin : b ∈ tc := by rw [htc]; exact List.mem_cons_self
          have hbX := q1.xb b (List.mem_append_left _ hbin)
          have hWo : ∀ b', b' ≠ b → WW.heap[b']? = w.heap[b']? := fun b' hb' => by rw [← hW]; exact setRow_other _ _ _ _ hb'
          have hWn : WW.heap[b]? = some (.cells (arr.toList.take (l.length * info.size) ++ news ++ arr.toList.drop (l.length * info.size + news.length)).toArray ty (0, 0)) := by rw [← hW]; exact setRow_heap _ _ _ _ _ _ hh
          have hbel : Below W0.w.heap.size w WW := by
            rw [← hW]
            exact ⟨rfl, rfl, rfl, by simp [World.setRow], fun k' hk' => setRow_other _ _ _ _ (by omega)⟩
          have w1 := q1.world hbel (fun b' hb' hbx => hWo b' (fun e0 => hbx (by rw [e0]; exact List.mem_append_left _ hbin)))
          rw [htc] at n1 n3
          obtain ⟨n4, n5⟩ := List.nodup_cons.1 n1
          have mvl : ∀ {e' : AV} {cs' : List Value} {ts' : List Nat}, Rp w G2.F e' cs' ts' → b ∉ ts' → Rp WW G2.F e' cs' ts' := fun hr' ht => hr'.move (fun _ hf => hf) (fun b' hf => hWo b' (fun e0 => hbX.2.2.1 (e0 ▸ hf))) (fun b' hb' => hWo b' (fun e0 => ht (e0 ▸ hb')))
          obtain ⟨tk1, tk2⟩ := app_tok lnd hxnd (fun b' hb' hb2 => n3 b' (List.mem_cons_of_mem _ hb') b' hb2 rfl)
          have hszl : (arr.toList.take (l.length * info.size)).length = l.length * i.size := by
            rw [List.length_take, hty.size, Nat.min_eq_left]
            show _ ≤ arr.size
            rw [has]; exact Nat.mul_le_mul_right _ hlc
          have hszl' : (arr.toList.take (l.length * i.size)).length = l.length * i.size := by rw [← hty.size] at hszl ⊢; exact hszl
          have hnewRp := own_new (w2 := WW) (F := G2.F) (st := k + 1) (nl := some false) (dp := i.dp) (cap := cap) (z := i.size) (l := l) (lx := lx) (cl := cl) (cx := cx) (tl := tl) (tx := tx) (by simp) hWn hroom hcm (by
              have hinfo := hty.size
              rw [hinfo] at hfit
              simp only [hinfo, List.size_toArray, List.length_append, hszl', List.length_drop, Array.length_toList]
              omega) l1 (fun j e' he' => mvl (l2 j e' he') (fun hb => n4 (mem_flat (lt_of_get he') hb))) (fun j q u hj hq => by
              have hqz : q < i.size := by have := lt_of_get hq; rw [l1 j hj] at this; exact this
              have hlt : j * i.size + q < l.length * i.size := by
                calc j * i.size + q < j * i.size + i.size := by omega
                  _ = (j + 1) * i.size := by rw [Nat.add_mul, Nat.one_mul]
                  _ ≤ l.length * i.size := Nat.mul_le_mul_right _ hj
              rw [List.getElem?_toArray, List.append_assoc, List.getElem?_append_left (by rw [hszl]; exact hlt), List.getElem?_take_of_lt (by rw [hty.size]; exact hlt), Array.getElem?_toList]
              exact hw j q u hj hq) l4 hxl (fun j e' he' => mvl (hxr j e' he') (fun hb => n3 b List.mem_cons_self b (mem_flat (lt_of_get he') hb) rfl)) (fun j q u hj hq => by
              have hqz : q < i.size := by have := lt_of_get hq; rw [hxl j hj] at this; exact this
              have e9 : (l.length + j) * i.size + q = l.length * i.size + (j * i.size + q) := by rw [Nat.add_mul]; omega
              rw [List.getElem?_toArray, List.append_assoc, e9, List.getElem?_append_right (by rw [hszl]; omega), hszl, Nat.add_sub_cancel_left, List.getElem?_append_left (by rw [f1]; calc j * i.size + q < j * i.size + i.size := by omega
                _ = (j + 1) * i.size := by rw [Nat.add_mul, Nat.one_mul]
                _ ≤ lx.length * i.size := Nat.mul_le_mul_right _ hj), f2 j q hj hqz]
              exact hq) hxsc
          have hsub := w1.sub (A := tc ++ (List.range lx.length).flatMap tx) (B := []) (by simp) (A' := b :: (List.range (l.length + lx.length)).flatMap fun j => if j < l.length then tl j else tx (j - l.length)) (fun b' hb => by
              rcases List.mem_cons.1 hb with rfl | hb
              · exact List.mem_append_left _ hbin
              · rcases tk2 b' hb with h1 | h1
                · exact List.mem_append_left _ (ltc b' h1)
                · exact List.mem_append_right _ h1) (List.nodup_cons.2 ⟨fun hb => by
                rcases tk2 _ hb with h1 | h1
                · exact n4 h1
                · exact n3 b List.mem_cons_self b h1 rfl, tk1⟩)
          exact Yl.value (hex _ _ hrun) (put_fin hsub hdn (v := .sl (some (k + 1)) (some false) i.size i.dp (l ++ lx)) hnewRp ⟨[], rfl⟩ (fun s' nl' sz' dp' l' e0 l2' => by cases e0; exact hn2 l2') r6)
        · refine grow cap ?_
          have := run_append_grow (P := P) w t o.type e info z hu hty.hi hty.zero ⟨b, 0, none⟩ l.length cap olds (by rw [o1, hty.size]) (fun j v hv => by
              obtain ⟨j', q, rfl, hj, hq⟩ := o3 j v hv
              rw [Addr.add_lit, Nat.zero_add, cell_of_block hh]
              exact hw j' q v hj hq) ⟨b2, off2, none⟩ lx.length capx news (by rw [f1, hty.size]) hnewsc (by omega) (by omega) (growslice_fits (by omega) (by rw [hty.bytes]; omega))
          rw [hs0, hxv]
          exact this
  · exact (runs_fail r4).elim
end
end Go.Proofs.Ytjihjjbieeofdaa.T
namespace Go.Proofs.Ytjihjjbieeofdaa.T
set_option linter.unusedSimpArgs false
set_option linter.unusedVariables false
open Go Go.RowKit
set_option linter.unusedVariables false
set_option linter.unusedSimpArgs false
section
variable {P : Program} {W0 : Bs} {N : Nat} {G G' : Gh} {g g' : Nat → AV} {a a' : Act} {w w' : World} {X X' : List Nat} {L : Lg} {k d : Nat} {E : Env} {o : Oper} {Imp : Nat → List AV → AV → Prop}
theorem zeroE_rp {e : Nat} {i : TI} {info : TypeInfo} {ds : TypeDesc} {z : Value} (hty : TyOk P e i info ds z) (w : World) (F : Nat → Prop) : Rp w F (zeroE i) z.cells.toList [] := by
  obtain ⟨z1, z2⟩ := zerosB_rp hty.zs
  unfold zeroE
  by_cases hag : i.isAgg = true
  · rw [if_pos hag]
    have : Rp w F (.agg i.zero) z.cells.toList ((List.range i.zero.length).flatMap fun _ => []) := .agg z1 (fun j e he => by
      have := lt_of_get he
      exact plain_nagg (zeroB_rp (z2 j e _ he (List.getElem?_eq_getElem (by omega))) w F).2.1) (fun j e y he hy => (zeroB_rp (z2 j e y he hy) w F).1)
    rwa [flat_nil] at this
  · rw [if_neg hag]
    have hone := hty.one (by simpa using hag)
    have hl : z.cells.toList.length = 1 := by rw [Array.length_toList, hty.zn, hone]
    obtain ⟨y, hy⟩ := List.length_eq_one_iff.1 hl
    rw [hy] at z1 z2 ⊢
    obtain ⟨v, hv⟩ := List.length_eq_one_iff.1 (by simpa using z1.symm : i.zero.length = 1)
    rw [hv] at z2 ⊢
    exact (zeroB_rp (z2 0 v y rfl rfl) w F).1
theorem made_get {c : Array Value} {n sz j q : Nat} (hc : c.size = sz) (hs : 0 < sz) (hj : j < n) (hq : q < sz) : (madeCells c (n * sz))[j * sz + q]? = c[q]? := by
  have hlt : j * sz + q < n * sz := by
    calc j * sz + q < j * sz + sz := by omega
      _ = (j + 1) * sz := by rw [Nat.add_mul, Nat.one_mul]
      _ ≤ n * sz := Nat.mul_le_mul_right _ hj
  unfold madeCells
  rw [Array.getElem?_map, Array.getElem?_eq_getElem (by simpa using hlt)]
  simp only [Array.getElem_range, Option.map_some]
  have hm : (j * sz + q) % c.size = q := by
    rw [hc, Nat.add_comm, Nat.add_mul_mod_self_right, Nat.mod_eq_of_lt hq]
  rw [hm]
  rw [Array.getElem?_eq_getElem (by omega), getElem!_pos c q (by omega)]
theorem make_snd (hE : E.tb.okB P = true) (h : Rel W0 N G g a w []) (hn : NoSt (k + 1) g) {t : Nat} {x y : Operand} (ho : o.op = .makeSlice t x y) (hd : o.dst = some d) (hdn : d < N) (hx : opOk N x) (hy : opOk N y) {i : TI} (hi : elemOf E t = some i) (hr : Runs Imp ((rdo x).bind fun n => (rdo y).bind fun c => makeP k d i n c) g () g' L) : Yl P o a w (Fin W0 N g' a o.dst) := by
  rw [hd]
  obtain ⟨A, g1, L1, L2, r1, r2, _⟩ := Runs.bind_inv hr
  obtain ⟨e1, ts, hA, _⟩ := rdo_snd h hx r1
  subst e1
  obtain ⟨B, g1, L3, L4, r3, r4, _⟩ := Runs.bind_inv r2
  obtain ⟨e1, ts', hB, _⟩ := rdo_snd h hy r3
  subst e1
  obtain ⟨e, info, ds, z, hu, hty⟩ := elem_of hE hi
  unfold makeP at r4
  split at r4
  · rename_i n c
    obtain ⟨⟨e1, h0, hle, hby⟩, r5⟩ := runs_need r4
    have hx1 : a.eval x = .int .i64 n := by generalize a.eval x = v at hA; cases hA; rfl
    have hy1 : a.eval y = .int .i64 c := by generalize a.eval y = v at hB; cases hB; rfl
    split at r5
    · rename_i hsc
      have hb48 : (info.bytes : Int) * c ≤ 281474976710656 := by rw [hty.bytes, Int.mul_comm]; omega
      have hrun := run_make (P := P) w t e info z hu hty.hi hty.zero .i64 .i64 n c h0 e1 hb48 (by omega)
      obtain ⟨G1, w1, w2, w3⟩ := h.alloc1 (.cells (madeCells z.cells (c.toNat * info.size)) e) false
      simp only [Bool.false_eq_true, if_false] at w1
      have hlen : (List.replicate n.toNat (zeroE i)).length = n.toNat := List.length_replicate
      have hRp : Rp (w.alloc (.cells (madeCells z.cells (c.toNat * info.size)) e)) G1.F (.sl (some (k + 1)) (some false) i.size i.dp (List.replicate n.toNat (zeroE i))) [.slice (some ⟨w.heap.size, 0, none⟩) (List.replicate n.toNat (zeroE i)).length c.toNat] (w.heap.size :: (List.range (List.replicate n.toNat (zeroE i)).length).flatMap fun _ => []) := by
        refine .own (arr := madeCells z.cells (c.toNat * info.size)) (ty := e) (cs := fun _ => z.cells.toList) (by simp) (by show (w.heap.push _)[w.heap.size]? = _; simp) (by rw [hlen]; omega) (by unfold maxLen; omega) (by rw [size_madeCells, hty.size]) (fun j hj => by rw [Array.length_toList]; exact hty.zn) (fun j el hel => ?_) (fun j q u hj hu2 => ?_) (fun hdp el hel => ?_)
        · have := List.mem_of_getElem? hel
          rw [List.mem_replicate] at this
          rw [this.2]
          exact zeroE_rp hty _ _
        · rw [hlen] at hj
          have hq : q < i.size := by have := lt_of_get hu2; rw [Array.length_toList, hty.zn] at this; exact this
          rw [hty.size, made_get hty.zn hty.pos (show j < c.toNat by omega) hq]
          simpa using hu2
        · rw [(List.mem_replicate.1 hel).2]
          rcases hsc with h1 | h1
          · rw [hdp] at h1; cases h1
          · exact h1
      rw [flat_nil, hlen] at hRp
      refine Yl.value (ex_of (S := Instr.makeSlice t (a.eval x) (a.eval y)) (by unfold execOp; rw [ho]) (by rw [hx1, hy1]; exact hrun)) (put_fin w1 hdn (v := .sl (some (k + 1)) (some false) i.size i.dp (List.replicate n.toNat (zeroE i))) (td := [w.heap.size]) hRp ⟨_, rfl⟩ (fun s nl sz dp l e0 l' => by cases e0; exact hn l') r5)
    · exact (runs_fail r5).elim
  · exact (runs_fail r4).elim
theorem optI_snd (h : Rel W0 N G g a w X) {x : Option Operand} (hx : ∀ y, x = some y → opOk N y) {n0 n : Int} (hr : Runs Imp (optI x n0) g n g' L) : g' = g ∧ ((x = none ∧ n = n0) ∨ ∃ y k', x = some y ∧ a.eval y = .int k' n) := by
  cases x with
  | none =>
    obtain ⟨rfl, rfl⟩ := runs_ret hr
    exact ⟨rfl, .inl ⟨rfl, rfl⟩⟩
  | some y =>
    obtain ⟨A, g1, L1, L2, r1, r2, _⟩ := Runs.bind_inv hr
    obtain ⟨e1, ts, hA, _⟩ := rdo_snd h (hx y rfl) r1
    subst e1
    split at r2
    · rename_i k' m
      obtain ⟨rfl, rfl⟩ := runs_ret r2
      exact ⟨rfl, .inr ⟨y, k', rfl, by generalize a.eval y = v at hA; cases hA; rfl⟩⟩
    · exact (runs_fail r2).elim
theorem bound_run {k' : IntKind} {n : Int} {y : Nat} {c : BoundsCode} (h0 : 0 ≤ n) (h1 : n ≤ y) : (Instr.sliceBound (.int k' n) y c).run P w = .ok n.toNat w := by
  simp [Instr.sliceBound, asIntOf, h0, h1]
theorem bounds_run {isS : Bool} {len cap : Nat} {lo hi : Option Operand} {l hh : Int} (hl : (lo = none ∧ l = 0) ∨ ∃ y k', lo = some y ∧ a.eval y = .int k' l) (hh' : (hi = none ∧ hh = len) ∨ ∃ y k', hi = some y ∧ a.eval y = .int k' hh) (h0 : 0 ≤ l) (h1 : l ≤ hh) (h2 : hh ≤ len) (hlc : len ≤ cap) : (Instr.sliceBounds isS len cap (lo.map a.eval) (hi.map a.eval) none).run P w = .ok (l.toNat, hh.toNat, cap) w := by
  have b1 : ∀ {k' c}, (Instr.sliceBound (.int k' hh) cap c).run P w = .ok hh.toNat w := fun {k' c} => bound_run (by omega) (by omega)
  have b2 : ∀ {k' c}, (Instr.sliceBound (.int k' l) hh.toNat c).run P w = .ok l.toNat w := fun {k' c} => bound_run h0 (by omega)
  rcases hl with ⟨rfl, rfl⟩ | ⟨y, k1, rfl, e1⟩ <;> rcases hh' with ⟨rfl, rfl⟩ | ⟨y2, k2, rfl, e2⟩
  · simp [Instr.sliceBounds]
  · cases isS <;> simp [Instr.sliceBounds, e2, b1]
  · have b3 : ∀ {k' c}, (Instr.sliceBound (.int k' l) len c).run P w = .ok l.toNat w := fun {k' c} => bound_run h0 (by omega)
    cases isS <;> simp [Instr.sliceBounds, e1, b3]
  · cases isS <;> simp [Instr.sliceBounds, e1, e2, b1, b2]
theorem slice_snd (hE : E.tb.okB P = true) (h : Rel W0 N G g a w []) (hn : NoSt (k + 1) g) {t : Nat} {x : Operand} {lo hi : Option Operand} (ho : o.op = .slice t x lo hi none) (hd : o.dst = some d) (hdn : d < N) (hx : opOk N x) (hlo : ∀ y, lo = some y → opOk N y) (hhi : ∀ y, hi = some y → opOk N y)
    (hr : Runs Imp ((take k true true x).bind fun v => sliceP k d (isStr E t) ((elemOf E t).map (·.size)) lo hi v) g () g' L) : Yl P o a w (Fin W0 N g' a o.dst) := by
  rw [hd]
  obtain ⟨v, g1, L1, L2, r1, r2, _⟩ := Runs.bind_inv hr
  obtain ⟨G1, ts, k1, k2, k3, k4⟩ := take_snd h hx r1
  have hex : ∀ u w', (Instr.sliceAt t (a.eval x) (lo.map a.eval) (hi.map a.eval) none).run P w = .ok u w' → (execOp a.eval o).run P w = .ok (.value u) w' := fun u w' hS => ex_of (S := Instr.sliceAt t (a.eval x) (lo.map a.eval) (hi.map a.eval) none) (by unfold execOp; rw [ho]; rfl) hS
  unfold sliceP at r2
  split at r2
  · rename_i y
    split at r2
    case isFalse => exact (runs_fail r2).elim
    rename_i hstr
    obtain ⟨l, g2, L3, L4, r3, r4, _⟩ := Runs.bind_inv r2
    obtain ⟨e1, hl⟩ := optI_snd k1 hlo r3
    subst e1
    obtain ⟨hh, g2, L5, L6, r5, r6, _⟩ := Runs.bind_inv r4
    obtain ⟨e1, hh'⟩ := optI_snd k1 hhi r5
    subst e1
    obtain ⟨⟨h0, h1, h2⟩, r7⟩ := runs_need r6
    have hxv : a.eval x = .string y := by generalize a.eval x = v at k2; cases k2; rfl
    obtain ⟨i, hi, hk⟩ : ∃ i, E.tb.get t = some i ∧ i.k = .str := by
      unfold isStr at hstr
      split at hstr
      · rename_i i hi
        split at hstr
        · rename_i hk; exact ⟨i, hi, hk⟩
        · cases hstr
      · cases hstr
    · obtain ⟨_, ds, _, hs⟩ := tb_ok hE hi
      have d1 := hs.desc
      rw [hk] at d1
      subst d1
      have hb := bounds_run (P := P) (w := w) (a := a) (isS := false) (len := y.size) (cap := y.size) hl hh' h0 h1 h2 (Nat.le_refl _)
      refine Yl.value (hex (.string (y.extract l.toNat hh.toNat)) w ?_) (put_idle (k1.drop (X' := []) (fun b hb => by cases hb) List.nodup_nil) hdn (rv_s _) rfl r7)
      rw [hxv]
      simp [Instr.sliceAt, Instr.slice, run_underlying hs.hu, hb]
  · rename_i nl sz dp l
    split at r2
    · rename_i hz
      obtain ⟨l1, g2, L3, L4, r3, r4, _⟩ := Runs.bind_inv r2
      obtain ⟨e1, hl⟩ := optI_snd k1 hlo r3
      subst e1
      obtain ⟨hh, g2, L5, L6, r5, r6, _⟩ := Runs.bind_inv r4
      obtain ⟨e1, hh'⟩ := optI_snd k1 hhi r5
      subst e1
      obtain ⟨⟨h0, h1, h2⟩, r7⟩ := runs_need r6
      cases hel : elemOf E t with
      | none => rw [hel] at hz; cases hz
      | some i =>
        rw [hel] at hz
        simp only [Option.map_some, Option.some.injEq] at hz
        obtain ⟨e, info, ds, z, hu, hty⟩ := elem_of hE hel
        have hRp : Rp w G1.F (.sl none nl sz dp l) [a.eval x] ts := k2
        generalize hxv : a.eval x = xv at hRp hex
        cases hRp with
        | @fz A _ _ _ _ cap b off cs hc hm hnn h00 hA hl' hr' hd' hw =>
          have hb := bounds_run (P := P) (w := w) (a := a) (isS := true) (len := l.length) (cap := cap) hl hh' h0 h1 h2 hc
          refine Yl.value (hex (.slice (if cap = l1.toNat then A else A.map (·.add (l1.toNat * i.size))) (hh.toNat - l1.toNat) (cap - l1.toNat)) w ?_) (put_idle (k1.drop (X' := []) (fun b hb => by cases hb) List.nodup_nil) hdn (v := .sl none nl sz dp ((l.take hh.toNat).drop l1.toNat)) ?_ rfl r7)
          · simp [Instr.sliceAt, Instr.slice, run_underlying hu, hb, hty.sizeOf]
          · have hlen : ((l.take hh.toNat).drop l1.toNat).length = hh.toNat - l1.toNat := by rw [List.length_drop, List.length_take]; omega
            rw [← hlen]
            have hget : ∀ j e0, ((l.take hh.toNat).drop l1.toNat)[j]? = some e0 → l[l1.toNat + j]? = some e0 ∧ l1.toNat + j < l.length := by
              intro j e0 he0
              have hj := lt_of_get he0
              rw [hlen] at hj
              rw [List.getElem?_drop, List.getElem?_take_of_lt (by omega)] at he0
              exact ⟨he0, lt_of_get he0⟩
            refine Rp.fz (b := b) (off := off + l1.toNat * sz) (cs := fun j => cs (l1.toNat + j)) (by rw [hlen]; omega) (by omega) (fun q hq => ?_) (fun hA0 => ?_) (fun hne => ?_) (fun j hj => hl' _ (by rw [hlen] at hj; omega)) (fun j e0 he0 => hr' _ e0 (hget j e0 he0).1) (fun hdp e0 he0 => ?_) (fun j q u hj hu2 => ?_)
            · rw [hnn q hq]
              split
              · rfl
              · cases A <;> simp
            · have hA1 : A = none := by
                split at hA0
                · exact hA0
                · cases A with
                  | none => rfl
                  | some ad => cases hA0
              obtain ⟨e3, e4⟩ := h00 hA1
              subst e3
              simp at h2
              have : l1.toNat = 0 ∧ hh.toNat = 0 := by omega
              rw [this.1, this.2, e4]; simp
            · have hne' : l ≠ [] := fun e0 => hne (by rw [e0]; simp)
              obtain ⟨e3, hF⟩ := hA hne'
              have hlt : l1.toNat < hh.toNat := by
                rcases Nat.lt_or_ge l1.toNat hh.toNat with h5 | h5
                · exact h5
                · exact absurd (List.eq_nil_of_length_eq_zero (by rw [hlen]; omega)) hne
              rw [if_neg (by omega), e3]
              simp [Addr.add_lit, hz, hF]
            · have := List.mem_of_mem_take (List.mem_of_mem_drop he0)
              exact hd' hdp e0 this
            · rw [hlen] at hj
              have := hw (l1.toNat + j) q u (by omega) hu2
              rw [← this, Nat.add_mul]
              congr 2
              omega
    · exact (runs_fail r2).elim
  · exact (runs_fail r2).elim
theorem slice0_snd (hE : E.tb.okB P = true) (h : Rel W0 N G g a w []) (hn : NoSt (k + 1) g) {t : Nat} {x : Operand} (ho : o.op = .slice t x none (some (.const (.int .i64 0))) (some (.const (.int .i64 0)))) (hd : o.dst = some d) (hdn : d < N) (hx : opOk N x) {i : TI} (hi : elemOf E t = some i) (hr : Runs Imp ((rdo x).bind fun v => slice0P k d v) g () g' L) : Yl P o a w (Fin W0 N g' a o.dst) := by
  rw [hd]
  obtain ⟨A, g1, L1, L2, r1, r2, _⟩ := Runs.bind_inv hr
  obtain ⟨e1, ts, hA, _⟩ := rdo_snd h hx r1
  subst e1
  obtain ⟨c, g1, L3, L4, r3, r4, _⟩ := Runs.bind_inv r2
  obtain ⟨e, info, ds, z, hu, hty⟩ := elem_of hE hi
  split at r4
  · rename_i o1 nl sz dp l
    obtain ⟨e1, tp, hRp⟩ := look_rp h hA r3
    subst e1
    have hex : ∀ B len cap, a.eval x = .slice B len cap → (execOp a.eval o).run P w = .ok (.value (.slice B 0 0)) w := by
      intro B len cap hxv
      refine ex_of (S := Instr.sliceAt t (a.eval x) none (some (.int .i64 0)) (some (.int .i64 0))) (by unfold execOp; rw [ho]; rfl) ?_
      rw [hxv]
      simp [Instr.sliceAt, Instr.slice, Instr.sliceBounds, Instr.sliceBound, asIntOf, run_underlying hu, hty.sizeOf]
    obtain ⟨B, cap, hxv, _⟩ := rp_len hRp
    have hnil : ∀ q, nl = some q → (q = true ↔ B = none) := by
      intro q hq
      subst hq
      obtain ⟨B', len', cap', e2, e3⟩ := rp_nil hRp
      rw [hxv] at e2
      cases e2
      rw [← e3]; cases B <;> simp
    refine Yl.value (hex B _ cap hxv) (put_fin h hdn (td := []) (v := .sl (some (k + 1)) nl sz dp []) ?_ ⟨[], rfl⟩ (fun s nl' sz' dp' l' e0 l2 => by cases e0; exact hn l2) r4)
    cases B with
    | none => exact Rp.own0 (fun e0 => by have := (hnil false e0).2 rfl; cases this)
    | some ad => exact Rp.own1 (fun e0 => by have := (hnil true e0).1 rfl; cases this)
  · exact (runs_fail r4).elim
end
end Go.Proofs.Ytjihjjbieeofdaa.T
namespace Go.Proofs.Ytjihjjbieeofdaa.T
set_option linter.unusedSimpArgs false
set_option linter.unusedVariables false
open Go Go.RowKit
set_option linter.unusedVariables false
set_option linter.unusedSimpArgs false
section
variable {P : Program} {W0 : Bs} {N : Nat} {G G' : Gh} {g g' : Nat → AV} {a a' : Act} {w w' : World} {X X' : List Nat} {L : Lg} {k d : Nat} {E : Env} {o : Oper}
structure Els (w : World) (F : Nat → Prop) (dp : Bool) (sz : Nat) (l : List AV) (c : Array Value) (tf : Nat → List Nat) (D : Nat → Prop) : Prop where
  len : c.size = l.length * sz
  rp : ∀ j e, l[j]? = some e → ∃ cs : List Value, cs.length = sz ∧ Rp w F e cs (tf j) ∧ ∀ q u, cs[q]? = some u → c[j * sz + q]? = some u
  sc : dp = false → ∀ e ∈ l, e.scal = true
  sub : ∀ j b, j < l.length → b ∈ tf j → D b
  nd : ∀ j, j < l.length → (tf j).Nodup
  dj : ∀ i j b, i < l.length → j < l.length → b ∈ tf i → b ∈ tf j → i = j
theorem Els.put {F : Nat → Prop} {dp : Bool} {sz : Nat} {l : List AV} {c : Array Value} {tf : Nat → List Nat} {D : Nat → Prop} (h : Els w F dp sz l c tf D) {v : AV} {x : Value} {ts : List Nat} (hv : Held w F v x ts) (hm : v.memOk = true) (hz : v.cellsL.length = sz) (hsc : dp = false → v.scal = true) {i : Nat} (hi : i < l.length) (hnd : ts.Nodup) (hD : ∀ b ∈ ts, ¬ D b) :
    ∃ c' tf', Els w F dp sz (l.set i v) c' tf' (fun b => D b ∨ b ∈ ts) ∧ x.cells.size = sz ∧ x.cells.zipIdx.foldl (fun cs (x : Value × Nat) => cs.setIfInBounds (i * sz + x.2) x.1) c = c' ∧ i * sz + sz ≤ c.size := by
  obtain ⟨tv, c1, c2, c3, c4, _⟩ := hv hm
  obtain ⟨f1, f2⟩ := Great.foldl_set (i * sz) x.cells.toList 0 c
  have hfold : x.cells.zipIdx.foldl (fun cs (x : Value × Nat) => cs.setIfInBounds (i * sz + x.2) x.1) c = (x.cells.toList.zipIdx 0).foldl (fun cs (x : Value × Nat) => cs.setIfInBounds (i * sz + x.2) x.1) c := by
    rw [← Array.foldl_toList, Array.toList_zipIdx]
  have hxl : x.cells.toList.length = sz := by rw [Array.length_toList, c2, hz]
  have hle : i * sz + sz ≤ c.size := by
    rw [h.len]
    calc i * sz + sz = (i + 1) * sz := by rw [Nat.add_mul, Nat.one_mul]
      _ ≤ l.length * sz := Nat.mul_le_mul_right _ hi
  refine ⟨_, fun j => if j = i then ts else tf j, ⟨?_, fun j e he => ?_, fun hdp e he => ?_, fun j b hj hb => ?_, fun j hj => ?_, fun p j b hp hj hbp hbj => ?_⟩, by rw [c2, hz], hfold, hle⟩
  · rw [f1, List.length_set]; exact h.len
  · by_cases hji : j = i
    · subst hji
      rw [List.getElem?_set_self hi] at he
      cases he
      refine ⟨x.cells.toList, hxl, by rw [if_pos rfl]; exact hv.rp hm, fun q u hu => ?_⟩
      have hq := lt_of_get hu
      rw [f2, if_pos ⟨by omega, by omega, by omega⟩, ← hu]
      congr 1; omega
    · rw [List.getElem?_set_ne (fun h => hji h.symm)] at he
      obtain ⟨cs, d1, d2, d3⟩ := h.rp j e he
      refine ⟨cs, d1, by rw [if_neg hji]; exact d2, fun q u hu => ?_⟩
      have hq := lt_of_get hu
      rw [f2, if_neg ?_]
      · exact d3 q u hu
      · rintro ⟨a1, a2, _⟩
        rcases Nat.lt_or_gt_of_ne hji with hlt | hgt
        · have : (j + 1) * sz ≤ i * sz := Nat.mul_le_mul_right _ (by omega)
          rw [Nat.add_mul, Nat.one_mul] at this
          omega
        · have : (i + 1) * sz ≤ j * sz := Nat.mul_le_mul_right _ (by omega)
          rw [Nat.add_mul, Nat.one_mul] at this
          omega
  · rcases List.mem_or_eq_of_mem_set he with he | rfl
    · exact h.sc hdp e he
    · exact hsc hdp
  · rw [List.length_set] at hj
    split at hb
    · exact .inr hb
    · exact .inl (h.sub j b hj hb)
  · rw [List.length_set] at hj
    split
    · exact hnd
    · exact h.nd j hj
  · rw [List.length_set] at hp hj
    split at hbp <;> split at hbj
    · omega
    · exact absurd (h.sub j b hj hbj) (hD b hbp)
    · exact absurd (h.sub p b hp hbp) (hD b hbj)
    · exact h.dj p j b hp hj hbp hbj
theorem fillE_snd {F : Nat → Prop} {dp : Bool} {sz n : Nat} : ∀ {vs : List (Nat × AV)} {xs : List (Nat × Value)} {tss : List (List Nat)} {l : List AV} {c : Array Value} {tf : Nat → List Nat} {D : Nat → Prop}, Els w F dp sz l c tf D → l.length = n → (∀ p ∈ vs, p.1 < n ∧ p.2.memOk = true ∧ p.2.cellsL.length = sz ∧ (dp = false → p.2.scal = true)) → xs.length = vs.length → tss.length = vs.length → (∀ (p : Nat) (iv : Nat × AV) (ix : Nat × Value) (ts : List Nat), vs[p]? = some iv → xs[p]? = some ix → tss[p]? = some ts → iv.1 = ix.1 ∧ Held w F iv.2 ix.2 ts) → tss.flatten.Nodup → (∀ b ∈ tss.flatten, ¬ D b) →
    ∃ c' tf', Instr.fill (fun i => some (i * sz, sz)) c xs = some c' ∧ Els w F dp sz (setAll l vs) c' tf' (fun b => D b ∨ b ∈ tss.flatten) ∧ (setAll l vs).length = n
  | [], [], [], l, c, tf, D, h, hn, _, _, _, _, _, _ => ⟨c, tf, rfl, ⟨h.len, h.rp, h.sc, fun j b hj hb => .inl (h.sub j b hj hb), h.nd, h.dj⟩, hn⟩
  | (i, v) :: vs, ix :: xs, ts :: tss, l, c, tf, D, h, hn, hok, hl1, hl2, hv, hnd, hD => by
    obtain ⟨e1, hh⟩ := hv 0 (i, v) ix ts rfl rfl rfl
    obtain ⟨i', x⟩ := ix
    simp only at e1 hh
    subst e1
    obtain ⟨hi, hm, hz, hsc⟩ := hok _ List.mem_cons_self
    rw [List.flatten_cons] at hnd hD
    obtain ⟨m1, m2, m3⟩ := List.nodup_append.1 hnd
    obtain ⟨c1, tf1, q1, q2, q3, q4⟩ := h.put hh hm hz hsc (i := i) (by omega) m1 (fun b hb => hD b (List.mem_append_left _ hb))
    have n1 : (l.set i v).length = n := by rw [List.length_set]; exact hn
    have n2 : ∀ p ∈ vs, p.1 < n ∧ p.2.memOk = true ∧ p.2.cellsL.length = sz ∧ (dp = false → p.2.scal = true) := fun p hp => hok p (List.mem_cons_of_mem _ hp)
    have n3 : xs.length = vs.length := by simpa using hl1
    have n4 : tss.length = vs.length := by simpa using hl2
    have n5 : ∀ (p : Nat) (iv : Nat × AV) (ix : Nat × Value) (ts : List Nat), vs[p]? = some iv → xs[p]? = some ix → tss[p]? = some ts → iv.1 = ix.1 ∧ Held w F iv.2 ix.2 ts := fun p iv ix ts' h1 h2 h3 => hv (p + 1) iv ix ts' (by simpa using h1) (by simpa using h2) (by simpa using h3)
    have n6 : ∀ b ∈ tss.flatten, ¬ (D b ∨ b ∈ ts) := fun b hb hb2 => hb2.elim (hD b (List.mem_append_right _ hb)) (fun hb3 => m3 b hb3 b hb rfl)
    obtain ⟨c2, tf2, w1, w2, w3⟩ := fillE_snd (vs := vs) (xs := xs) (tss := tss) (l := l.set i v) (c := c1) (tf := tf1) (D := fun b => D b ∨ b ∈ ts) q1 n1 n2 n3 n4 n5 m2 n6
    refine ⟨c2, tf2, ?_, ⟨w2.len, w2.rp, w2.sc, fun j b hj hb => ?_, w2.nd, w2.dj⟩, w3⟩
    · unfold Instr.fill
      dsimp only
      rw [if_neg (by simp only [Bool.or_eq_true, decide_eq_true_eq]; rintro (h1 | h1); exact h1 q2; rw [q2] at h1; omega), q3]
      exact w1
    · rcases w2.sub j b hj hb with (h1 | h1) | h1
      · exact .inl h1
      · exact .inr (List.mem_append_left _ h1)
      · exact .inr (List.mem_append_right _ h1)
set_option maxHeartbeats 2000000 in
theorem buildSlice_snd {Imp : Nat → List AV → AV → Prop} (hE : E.tb.okB P = true) (h : Rel W0 N G g a w []) (hn : NoSt (k + 1) g) {t n : Nat} {ps : Array (Nat × Operand)} (ho : o.op = .buildSlice t n ps) (hd : o.dst = some d) (hdn : d < N) (hx : ∀ p ∈ ps.toList, opOk N p.2) {i : TI} (hi : elemOf E t = some i) {fd fp : Bool} (hr : Runs Imp (if n * i.size ≤ 1000 ∧ (i.dp = true ∨ (zeroE i).scal = true) then (parts k fd fp ps.toList).bind fun vs => if vs.all (fun p => p.1 < n && elemOk i p.2) then (Pg.fc (setAll (List.replicate n (zeroE i)) vs) fun l => put d (.sl (some (k + 1)) (some false) i.size i.dp l)) else .fail else .fail) g () g' L) : Yl P o a w (Fin W0 N g' a o.dst) := by
  rw [hd]
  split at hr
  case isFalse => exact (runs_fail hr).elim
  rename_i hcond
  obtain ⟨hle, hscz⟩ := hcond
  obtain ⟨vs, g1, L1, L2, r1, r2, _⟩ := Runs.bind_inv hr
  obtain ⟨G1, tss, k1, k2, k3, k4, k5⟩ := parts_snd h hx r1
  have hn1 := k5.less.noSt hn
  obtain ⟨e, info, ds, z, hu, hty⟩ := elem_of hE hi
  split at r2
  case isFalse => exact (runs_fail r2).elim
  rename_i hall
  replace r2 := runs_fc r2
  have hpos := hty.pos
  obtain ⟨m1, m2, m3⟩ := List.nodup_append.1 k1.xn
  have hok : ∀ p ∈ vs, p.1 < n ∧ p.2.memOk = true ∧ p.2.cellsL.length = i.size ∧ (i.dp = false → p.2.scal = true) := by
    intro p hp
    have := List.all_eq_true.1 hall p hp
    simp only [elemOk, Bool.and_eq_true, decide_eq_true_eq, beq_iff_eq, Bool.or_eq_true] at this
    obtain ⟨a1, ⟨⟨a2, a3⟩, _⟩, a5⟩ := this
    exact ⟨a1, a2, a3, fun hdp => by rcases a5 with h1 | h1; rw [hdp] at h1; cases h1; exact h1⟩
  have h0 : Els w G1.F i.dp i.size (List.replicate n (zeroE i)) (madeCells z.cells (n * i.size)) (fun _ => []) (fun _ => False : Nat → Prop) := by
    refine ⟨by rw [size_madeCells, List.length_replicate], fun j e' he' => ?_, fun hdp e' he' => ?_, fun j b _ hb => (by cases hb), fun _ _ => List.nodup_nil, fun p j b _ _ hb => (by cases hb)⟩
    · have hm := List.mem_of_getElem? he'
      rw [List.mem_replicate] at hm
      rw [hm.2]
      refine ⟨z.cells.toList, by rw [Array.length_toList]; exact hty.zn, zeroE_rp hty _ _, fun q u hu2 => ?_⟩
      have hj : j < n := by have := lt_of_get he'; rwa [List.length_replicate] at this
      have hq : q < i.size := by have := lt_of_get hu2; rw [Array.length_toList, hty.zn] at this; exact this
      rw [made_get hty.zn hpos hj hq]
      simpa using hu2
    · rw [(List.mem_replicate.1 he').2]
      rcases hscz with h1 | h1
      · rw [hdp] at h1; cases h1
      · exact h1
  obtain ⟨c', tf', q1, q2, q3⟩ := fillE_snd (n := n) (xs := (ps.map fun (i, x) => (i, a.eval x)).toList) h0 List.length_replicate hok (by simp [k3]) (by rw [k2, k3]) (fun p iv ix ts h1 h2 h3 => by
      obtain ⟨x, y1, y2, y3⟩ := k4 p iv ts h1 h3
      simp only [Array.toList_map, List.getElem?_map, y1, Option.map_some, Option.some.injEq] at h2
      subst h2
      exact ⟨rfl, y2⟩) m1 (fun b _ hb => hb)
  have hcs := q2.len
  rw [q3] at hcs
  have hrun : (Instr.buildSlice t n (ps.map fun (i, x) => (i, a.eval x))).run P w = .ok (.slice (some ⟨w.heap.size, 0, none⟩) n n) (w.alloc (.cells c' e)) := by
    by_cases hn0 : n * i.size = 0
    · have hn00 : n = 0 := by
        rcases Nat.eq_zero_or_pos n with h1 | h1
        · exact h1
        · have := Nat.mul_pos h1 hpos; omega
      subst hn00
      have hvs : vs = [] := by
        cases vs with
        | nil => rfl
        | cons p vs => have := (hok p List.mem_cons_self).1; omega
      have hps : ps = #[] := by
        have : ps.toList.length = 0 := by rw [← k3, hvs]; rfl
        exact Array.toList_eq_nil_iff.1 (List.eq_nil_of_length_eq_zero this)
      subst hps
      have hc' : c' = #[] := Array.eq_empty_of_size_eq_zero (by rw [hcs]; simp)
      subst hc'
      simp [Instr.buildSlice, run_underlying hu, hty.sizeOf, Instr.fill, newRow, Array.range_zero']
    · refine run_buildSlice w t e n _ c' info z hu hty.hi hty.zero (by rw [hty.size]; omega) (by rw [hty.size]; exact hn0) ?_
      rw [hty.size]
      exact q1
  obtain ⟨G2, w1, w2, w3⟩ := k1.alloc1 (.cells c' e) false
  simp only [Bool.false_eq_true, if_false] at w1
  generalize hW : w.alloc (.cells c' e) = WW at hrun w1
  have hWo : ∀ b, b < w.heap.size → WW.heap[b]? = w.heap[b]? := fun b hb => by rw [← hW]; exact Below.heap_alloc w _ b hb
  have hWn : WW.heap[w.heap.size]? = some (.cells c' e (0, 0)) := by rw [← hW]; show (w.heap.push _)[w.heap.size]? = _; simp
  have htk : ∀ b ∈ (List.range n).flatMap tf', b ∈ tss.flatten := by
    intro b hb
    obtain ⟨j, hj, hb⟩ := of_mem_flat hb
    rcases q2.sub j b (by rw [q3]; exact hj) hb with h1 | h1
    · exact h1.elim
    · exact h1
  have hrp := q2.rp
  have hex2 : ∃ cs : Nat → List Value, ∀ j e', (setAll (List.replicate n (zeroE i)) vs)[j]? = some e' → (cs j).length = i.size ∧ Rp w G1.F e' (cs j) (tf' j) ∧ ∀ q u, (cs j)[q]? = some u → c'[j * i.size + q]? = some u := by
    refine ⟨fun j => if hj : j < (setAll (List.replicate n (zeroE i)) vs).length then (hrp j _ (List.getElem?_eq_getElem hj)).choose else [], fun j e' he' => ?_⟩
    have hj := lt_of_get he'
    rw [List.getElem?_eq_getElem hj] at he'
    cases he'
    dsimp only
    rw [dif_pos hj]
    exact (hrp j _ (List.getElem?_eq_getElem hj)).choose_spec
  obtain ⟨cs, hcs2⟩ := hex2
  have hRp : Rp WW G2.F (.sl (some (k + 1)) (some false) i.size i.dp (setAll (List.replicate n (zeroE i)) vs)) [.slice (some ⟨w.heap.size, 0, none⟩) (setAll (List.replicate n (zeroE i)) vs).length n] (w.heap.size :: (List.range (setAll (List.replicate n (zeroE i)) vs).length).flatMap tf') := by
    refine .own (cs := cs) (by simp) hWn (by rw [q3]; exact Nat.le_refl _) (by unfold maxLen; have : n ≤ n * i.size := Nat.le_mul_of_pos_right _ hpos; omega) hcs (fun j hj => (hcs2 j _ (List.getElem?_eq_getElem hj)).1) (fun j e' he' => ?_) (fun j q u hj hu2 => (hcs2 j _ (List.getElem?_eq_getElem hj)).2.2 q u hu2) q2.sc
    refine (hcs2 j e' he').2.1.move w2 (fun b hf => hWo b (k1.F b hf)) (fun b hb => hWo b (k1.xb b (List.mem_append_left _ (htk b (mem_flat (by rw [← q3]; exact lt_of_get he') hb)))).2.1)
  rw [q3] at hRp
  have hnd : ((List.range n).flatMap tf').Nodup := nodup_flat (fun j hj => q2.nd j (by rw [q3]; exact hj)) (fun p j b hp hj => q2.dj p j b (by rw [q3]; exact hp) (by rw [q3]; exact hj))
  have hsub := w1.sub (A := w.heap.size :: (tss.flatten ++ [])) (B := []) (by simp) (A' := w.heap.size :: (List.range n).flatMap tf') (fun b hb => by
      rcases List.mem_cons.1 hb with rfl | hb
      · exact List.mem_cons_self
      · exact List.mem_cons_of_mem _ (List.mem_append_left _ (htk b hb))) (List.nodup_cons.2 ⟨fun hb => by
      have := (k1.xb _ (List.mem_append_left _ (htk _ hb))).2.1; omega, hnd⟩)
  exact Yl.value (ex_of (S := Instr.buildSlice t n (ps.map fun (i, x) => (i, a.eval x))) (by unfold execOp; rw [ho]) hrun) (put_fin hsub hdn (v := .sl (some (k + 1)) (some false) i.size i.dp (setAll (List.replicate n (zeroE i)) vs)) hRp ⟨[], by simp⟩ (fun s nl sz dp l e0 l' => by cases e0; exact hn1 l') r2)
theorem rt_allown {F F' : Nat → Prop} {v : AV} {x : Value} {ts : List Nat} (h : RT w F v x ts) (ho : v.allown = true) : RT w F' v x ts := by
  have r1 : ∀ {e : AV} {cs : List Value} {t : List Nat}, Rp w F e cs t → e.all1 = true → Rp w F' e cs t := by
    intro e cs t hr he
    cases hr with
    | b x => exact .b x
    | i k n => exact .i k n
    | s x => exact .s x
    | own0 hn => exact .own0 hn
    | own1 hn => exact .own1 hn
    | @own b cap arr ty nil sz st dp l cs tf hn hh hc hm hs hl hr hw hd =>
      have hdp : dp = false := by cases dp <;> first | rfl | cases he
      refine .own hn hh hc hm hs hl (fun j e' he' => ?_) hw hd
      have h1 := scal_any (hr j e' he') (hd hdp e' (List.mem_of_getElem? he')) w F'
      rw [h1.2]; exact h1.1
    | _ => cases he
  have r2 : ∀ {e : AV} {y : Value} {t : List Nat}, RW w F e y t → e.all2 = true → RW w F' e y t := by
    intro e y t hr he
    cases e with
    | agg l =>
      obtain ⟨arr, e1, h1⟩ := hr
      obtain ⟨tf, a1, a2, a3, a4⟩ := rp_agg h1
      refine ⟨arr, e1, ?_⟩
      rw [a4]
      exact .agg a1 a2 (fun j e' u he' hu => r1 (a3 j e' u he' hu) (List.all_eq_true.1 he _ (List.mem_of_getElem? he')))
    | sl | b | i | s => exact r1 (show Rp w F _ [y] t from hr) he
    | _ => cases he
  cases v with
  | tup l =>
    obtain ⟨vs, e1, e2, tf, e3, e4⟩ := h
    exact ⟨vs, e1, e2, tf, e3, fun j e y he hy => r2 (e4 j e y he hy) (List.all_eq_true.1 ho _ (List.mem_of_getElem? he))⟩
  | agg l => exact r2 (e := .agg l) h ho
  | sl o nl sz dp l => exact r2 (e := .sl o nl sz dp l) h ho
  | b y => exact r2 (e := .b y) h ho
  | i k n => exact r2 (e := .i k n) h ho
  | s y => exact r2 (e := .s y) h ho
  | _ => cases ho
theorem rt_rw {F : Nat → Prop} {v : AV} {x : Value} {ts : List Nat} (h : RT w F v x ts) (ht : ∀ l, v ≠ .tup l) : RW w F v x ts := by
  cases v with
  | tup l => exact absurd rfl (ht l)
  | _ => exact h
theorem rt_rv {F : Nat → Prop} (hF : F = G.F) {v : AV} {x : Value} {ts : List Nat} (h : RT w F v x ts) (k : Nat) : RV G g a w (v.st k) x ts ∧ Stp k (v.st k) := by
  subst hF
  cases v with
  | tup l =>
    obtain ⟨vs, e1, e2, tf, e3, e4⟩ := h
    refine ⟨⟨vs, e1, by rw [st2l_len]; exact e2, tf, by rw [st2l_len]; exact e3, fun j e y he hy => ?_⟩, ⟨fun s nl sz dp l' h' => (by cases h'), fun cs h' => (by cases h')⟩⟩
    obtain ⟨v0, hv0, rfl⟩ := st2l_get he
    exact (e4 j v0 y hv0 hy).st2 k
  | ptr | pv | ea | psl | pfa => cases h
  | _ =>
    rw [st_st2 (fun l e => (by cases e))]
    exact ⟨rw_rv rfl (RW.st2 (rt_rw h (fun l e => (by cases e))) k), st2_stp⟩
theorem ptrsP_snd {Imp : Nat → List AV → AV → Prop} (h : Rel W0 N G g a w X) : ∀ {ps : List (Nat × Operand)} {j : Nat} {l : List (Nat × Nat)} {L : Lg}, (∀ p ∈ ps, opOk N p.2) → Runs Imp (ptrsP j ps) g l g' L → g' = g ∧ l.length = ps.length ∧ ∀ (q n off i : Nat) (x : Operand), l[q]? = some (n, off) → ps[q]? = some (i, x) → i = j + q ∧ ∃ b z, G.bx n = some (b, z) ∧ a.eval x = .pointer (some ⟨b, off, none⟩)
  | [], j, l, L, _, hr => by
    unfold ptrsP at hr
    obtain ⟨rfl, rfl⟩ := runs_ret hr
    exact ⟨rfl, rfl, fun q n off i x he => by simp at he⟩
  | (i, x) :: ps, j, l, L, hx, hr => by
    cases x with
    | tmp t =>
      unfold ptrsP at hr
      split at hr
      · rename_i hij
        obtain ⟨_, r1⟩ := runs_rd hr
        split at r1
        · rename_i n o1 hg
          obtain ⟨l', g1, L1, L2, r2, r3, _⟩ := Runs.bind_inv r1
          obtain ⟨rfl, rfl⟩ := runs_ret r3
          obtain ⟨e1, k1, k2⟩ := ptrsP_snd h (fun p hp => hx p (List.mem_cons_of_mem _ hp)) r2
          refine ⟨e1, by simp [k1], fun q n' off' i' x' he hy => ?_⟩
          cases q with
          | zero =>
            simp only [List.getElem?_cons_zero, Option.some.injEq, Prod.mk.injEq] at he hy
            obtain ⟨rfl, rfl⟩ := he
            obtain ⟨rfl, rfl⟩ := hy
            have hsl := h.sl t (hx _ List.mem_cons_self t rfl)
            rw [hg] at hsl
            obtain ⟨_, b, z, hb, hv⟩ := hsl
            exact ⟨hij, b, z, hb, hv⟩
          | succ q =>
            simp only [List.getElem?_cons_succ] at he hy
            obtain ⟨h1, h2⟩ := k2 q n' off' i' x' he hy
            exact ⟨by omega, h2⟩
        · exact (runs_fail r1).elim
      · exact (runs_fail hr).elim
    | _ => unfold ptrsP at hr; exact (runs_fail hr).elim
theorem fill_ptrs : ∀ (xs : List (Nat × Value)) (j : Nat) (c : Array Value), (∀ q i x, xs[q]? = some (i, x) → i = j + q ∧ ∃ A, x = .pointer A) → j + xs.length ≤ c.size → ∃ c', Instr.fill (fun i => some (i * 1, 1)) c xs = some c' ∧ c'.size = c.size ∧ (∀ q i x, xs[q]? = some (i, x) → c'[j + q]? = some x) ∧ ∀ q, q < j → c'[q]? = c[q]?
  | [], j, c, _, _ => ⟨c, rfl, rfl, fun q i x h => by simp at h, fun q _ => rfl⟩
  | (i, x) :: xs, j, c, hp, hl => by
    obtain ⟨e1, A, e2⟩ := hp 0 i x rfl
    have e1 : i = j := by omega
    subst e1; subst e2
    simp only [List.length_cons] at hl
    obtain ⟨c', h1, h2, h3, h4⟩ := fill_ptrs xs (i + 1) (c.setIfInBounds i (.pointer A)) (fun q i' x' h => by
      obtain ⟨h1, h2⟩ := hp (q + 1) i' x' h
      exact ⟨by omega, h2⟩) (by simp; omega)
    refine ⟨c', ?_, by rw [h2]; simp, fun q i' x' hq => ?_, fun q hq => ?_⟩
    · unfold Instr.fill
      dsimp only
      have hz : (Value.pointer A).cells = #[.pointer A] := rfl
      rw [hz, if_neg (by simp; omega)]
      simpa using h1
    · cases q with
      | zero =>
        simp only [List.getElem?_cons_zero, Option.some.injEq, Prod.mk.injEq] at hq
        obtain ⟨_, rfl⟩ := hq
        rw [Nat.add_zero, h4 i (by omega), Array.getElem?_setIfInBounds_self_of_lt (by omega)]
      | succ q =>
        simp only [List.getElem?_cons_succ] at hq
        rw [show i + (q + 1) = i + 1 + q by omega]
        exact h3 q i' x' hq
    · rw [h4 q (by omega), Array.getElem?_setIfInBounds_ne (by omega)]
set_option maxHeartbeats 2000000 in
theorem bsP_snd {Imp : Nat → List AV → AV → Prop} (hE : E.tb.okB P = true) (h : Rel W0 N G g a w []) {t n : Nat} {ps : Array (Nat × Operand)} (ho : o.op = .buildSlice t n ps) (hd : o.dst = some d) (hdn : d < N) (hx : ∀ p ∈ ps.toList, opOk N p.2) {i : TI} (hi : elemOf E t = some i) (hip : i.isPtr = true) (hr : Runs Imp (bsP d n ps.toList) g () g' L) : Yl P o a w (Fin W0 N g' a o.dst) := by
  rw [hd]
  unfold bsP at hr
  obtain ⟨l, g1, L1, L2, r1, r2, _⟩ := Runs.bind_inv hr
  obtain ⟨e1, k1, k2⟩ := ptrsP_snd h hx r1
  subst e1
  split at r2
  case isFalse => exact (runs_fail r2).elim
  rename_i hcond
  obtain ⟨hn1, hn0, hn2⟩ := hcond
  obtain ⟨e, info, ds, z, hu, hty⟩ := elem_of hE hi
  have hag : i.isAgg = false := by
    unfold TI.isPtr at hip
    unfold TI.isAgg
    cases hk : i.k <;> rw [hk] at hip <;> first | rfl | cases hip
  have hone := hty.one hag
  have hzn := hty.zn
  rw [hone] at hzn
  obtain ⟨c', f1, f2, f3, _⟩ := fill_ptrs (ps.map fun (i, x) => (i, a.eval x)).toList 0 (madeCells z.cells n) (fun q i' x' hq => by
    rw [Array.toList_map, List.getElem?_map] at hq
    obtain ⟨⟨i2, x2⟩, h2, h3⟩ := Option.map_eq_some_iff.1 hq
    cases h3
    have hql := lt_of_get h2
    obtain ⟨⟨m, off⟩, hm⟩ : ∃ y, l[q]? = some y := ⟨_, List.getElem?_eq_getElem (by omega)⟩
    obtain ⟨h4, b, z1, _, h5⟩ := k2 q m off _ _ hm h2
    exact ⟨by omega, _, h5⟩) (by rw [size_madeCells]; simp at k1 ⊢; omega)
  have hrun : (Instr.buildSlice t n (ps.map fun (i, x) => (i, a.eval x))).run P w = .ok (.slice (some ⟨w.heap.size, 0, none⟩) n n) (w.alloc (.cells c' e)) := by
    refine run_buildSlice w t e n _ c' info z hu hty.hi hty.zero (by rw [hty.size, hone]; omega) (by rw [hty.size, hone]; omega) ?_
    rw [hty.size, hone, Nat.mul_one]
    exact f1
  generalize hW : w.alloc (.cells c' e) = WW at hrun
  have hWn : WW.heap[w.heap.size]? = some (.cells c' e (0, 0)) := by rw [← hW]; show (w.heap.push _)[w.heap.size]? = _; simp
  have hWs : WW.heap.size = w.heap.size + 1 := by rw [← hW]; show (w.heap.push _).size = _; simp
  have q1 := h.grow (w' := WW) (by rw [← hW]; exact (Below.refl _ w).alloc (Nat.le_refl _) _) (ts := []) (fun b => b = w.heap.size) (fun b hb => by cases hb) List.nodup_nil (fun b hb => ⟨by omega, by omega, by simp⟩)
  have hRV : RV ⟨fun b => G.F b ∨ b = w.heap.size, G.bx, G.tk⟩ g1 a WW (.psl l) (.slice (some ⟨w.heap.size, 0, none⟩) n n) [] := by
    refine ⟨rfl, w.heap.size, n, by rw [hn1], .inr rfl, fun j m off hj => ?_⟩
    have hjl := lt_of_get hj
    obtain ⟨⟨i2, x2⟩, h2⟩ : ∃ y, ps.toList[j]? = some y := ⟨_, List.getElem?_eq_getElem (by omega)⟩
    obtain ⟨h3, b, z1, h4, h5⟩ := k2 j m off i2 x2 hj h2
    refine ⟨b, z1, h4, ?_⟩
    rw [cell_of_block hWn]
    have := f3 j i2 (a.eval x2) (by rw [Array.toList_map, List.getElem?_map, h2]; rfl)
    rw [Nat.zero_add] at this
    rw [this, h5]
  rw [List.nil_append] at q1
  exact Yl.value (ex_of (S := Instr.buildSlice t n (ps.map fun (i, x) => (i, a.eval x))) (by unfold execOp; rw [ho]) hrun) (put_idle q1 hdn hRV rfl r2)
theorem rt_fz {F : Nat → Prop} {r : AV} {x : Value} {ts : List Nat} (h : RT w F r x ts) (hF : ∀ b, F b → G.F b) (ht : ∀ b ∈ ts, G.F b) : RV G g a w r.fzT x [] ∧ ∀ s nl sz dp l, r.fzT ≠ .sl (some s) nl sz dp l := by
  have hw : ∀ {e : AV} {y : Value} {t : List Nat}, RW w F e y t → (∀ b ∈ t, G.F b) → RW w G.F e.fz y [] := by
    intro e y t he hte
    cases e with
    | any => exact rfl
    | agg l => obtain ⟨arr, e1, h1⟩ := he; exact ⟨arr, e1, h1.toFz hF hte⟩
    | sl o nl sz dp l =>
      have h2 := Rp.toFz (F' := G.F) he hF hte
      cases dp <;> exact h2
    | b | i | s | fa => exact Rp.toFz (F' := G.F) he hF hte
    | _ => cases he
  have hno : ∀ (v : AV) (s : Nat) (nl : Option Bool) (sz : Nat) (dp : Bool) (l : List AV), v.fz ≠ .sl (some s) nl sz dp l := by
    intro v s nl sz dp l e
    have := fz_own1 v
    rw [e] at this; cases this
  cases r with
  | tup l =>
    obtain ⟨vs, e1, e2, tf, e3, e4⟩ := h
    refine ⟨⟨vs, e1, by rw [fzL_len]; exact e2, fun _ => [], flat_nil.symm, fun j e y he hy => ?_⟩, fun s nl sz dp l e => (by cases e)⟩
    obtain ⟨v0, hv0, rfl⟩ := fzL_get he
    exact hw (e4 j v0 y hv0 hy) (fun b hb => ht b (by rw [e3, ← e2]; exact mem_flat (by rw [e2]; exact lt_of_get hv0) hb))
  | ptr | pv | ea | psl | pfa => cases h
  | _ => exact ⟨rw_rv rfl (hw (rt_rw h (fun l e => (by cases e))) ht), hno _⟩
theorem call_sndQ (hE : E.tb.okB P = true) (h : Rel W0 N G g a w []) (hn : NoSt (k + 1) g) {c : Call} {f : Nat} (ho : o.op = .call c) (hc : c.callee = .value (.func f)) (hd : o.dst = some d) (hdn : d < N) (hx : ∀ x ∈ c.args.toList, opOk N x) (hr : Runs (Impl P) (callQ E k d f c.args.toList) g () g' L) : Yl P o a w (Fin W0 N g' a o.dst) := by
  rw [hd]
  have hex : ∀ fn, P.funcs[f]? = some fn → (fn.name == "runtime.NumGoroutine") = false → fn.body.isSome = true → (execOp a.eval o).run P w = .ok (.enter f (c.args.map a.eval)) w := by
    intro fn h1 h2 h3
    have h4 : fn.name ≠ "runtime.NumGoroutine" := by simpa using h2
    obtain ⟨cd, hcd⟩ := Option.isSome_iff_exists.1 h3
    unfold execOp
    rw [ho]
    simp [resolve, hc, Act.eval, Deferred.ofValue, invoke, callFunc, h1, h4, hcd]
  unfold callQ at hr
  split at hr
  · obtain ⟨ars, g1, L1, L2, r1, r2, _⟩ := Runs.bind_inv hr
    obtain ⟨e1, k1, k2⟩ := args_snd h hx r1
    subst e1
    obtain ⟨r, hI, r3⟩ := runs_call r2
    replace hI := hI.f (fun e he l e2 => by
      subst e2
      have hv := k2 0 (.tup l) _ he (List.getElem?_eq_getElem (by have := lt_of_get he; omega))
      cases hv)
    split at r3
    · rename_i hall
      obtain ⟨fn, f1, f2, f3⟩ := hI.fn
      unfold Yl
      rw [hex fn f1 f2 f3]
      refine (hI.calls (fun b => G.F b ∨ ∃ l, b ∈ G.tk l) w (c.args.map a.eval) (by simp [k1]) (fun j e v he hv => ?_) (fun b hb => ?_)).mono fun e w' hx' => ?_
      · rw [Array.getElem?_map, ← Array.getElem?_toList] at hv
        obtain ⟨x, hx1, rfl⟩ := Option.map_eq_some_iff.1 hv
        exact k2 j e x he hx1
      · rcases hb with hb | ⟨l, hb⟩
        · exact h.F b hb
        · exact (h.tk l b hb).2.1
      · obtain ⟨v, S, ts, rfl, hbel, hRT, hnd, hts, hS⟩ := hx'
        refine ⟨v, rfl, ?_⟩
        have q1 := h.grow hbel (ts := ts) (fun _ => False) hts hnd (fun b hb => hb.elim)
        rw [List.append_nil] at q1
        obtain ⟨w1, w2⟩ := rt_rv (G := ⟨fun b => G.F b ∨ False, G.bx, G.tk⟩) (g := g1) (a := a) rfl (rt_allown (F' := fun b => G.F b ∨ False) hRT hall) (k + 1)
        exact put_fin q1 hdn w1 ⟨[], by simp⟩ (no_stp w2 hn) r3
    · exact (runs_fail r3).elim
  · obtain ⟨ars, g1, L1, L2, r1, r2, _⟩ := Runs.bind_inv hr
    split at r2
    · rename_i hok
      obtain ⟨G1, k1, k2, k3, k4⟩ := takes_snd h hx r1 hok
      obtain ⟨r, hI, r3⟩ := runs_call r2
      replace hI := hI.f (fun e he l e2 => by
        subst e2
        have hv := k4 0 (.tup l) _ he (List.getElem?_eq_getElem (by have := lt_of_get he; omega))
        cases hv)
      obtain ⟨fn, f1, f2, f3⟩ := hI.fn
      unfold Yl
      rw [hex fn f1 f2 f3]
      refine (hI.calls G1.F w (c.args.map a.eval) (by simp [k3]) (fun j e v he hv => ?_) k1.F).mono fun e w' hx' => ?_
      · rw [Array.getElem?_map, ← Array.getElem?_toList] at hv
        obtain ⟨x, hx1, rfl⟩ := Option.map_eq_some_iff.1 hv
        exact k4 j e x he hx1
      · obtain ⟨v, S, ts, rfl, hbel, hRT, hnd, hts, hS⟩ := hx'
        refine ⟨v, rfl, ?_⟩
        split at r3
        · have q1 := k1.grow hbel (ts := []) (fun b => S b ∨ b ∈ ts) (fun b hb => (by cases hb)) List.nodup_nil (fun b hb => by
            rcases hb with hb | hb
            · exact ⟨(hS b hb).1, (hS b hb).2.1, List.not_mem_nil⟩
            · exact ⟨(hts b hb).1, (hts b hb).2, List.not_mem_nil⟩)
          rw [List.nil_append] at q1
          have w1 := rt_fz (g := g1) (a := a) (G := ⟨fun b => G1.F b ∨ S b ∨ b ∈ ts, G1.bx, G1.tk⟩) hRT (fun b hb => hb.elim .inl (fun h => .inr (.inl h))) (fun b hb => .inr (.inr hb))
          exact put_fin q1 hdn w1.1 ⟨[], by simp⟩ (fun s nl sz dp l e => by rw [e] at w1; exact absurd rfl (w1.2 s nl sz dp l)) r3
        have q1 := k1.grow hbel (ts := ts) S hts hnd hS
        rw [List.append_nil] at q1
        obtain ⟨w1, w2⟩ := rt_rv (G := ⟨fun b => G1.F b ∨ S b, G1.bx, G1.tk⟩) (g := g1) (a := a) rfl hRT (k + 1)
        exact put_fin q1 hdn w1 ⟨[], by simp⟩ (no_stp w2 (k2.less.noSt hn)) r3
    · exact (runs_fail r2).elim
theorem call_sndB (hE : E.tb.okB P = true) (h : Rel W0 N G g a w []) (hn : NoSt (k + 1) g) {c : Call} {f n t : Nat} {xs : List Operand} (ho : o.op = .call c) (hc : c.callee = .value (.func f)) (hd : o.dst = some d) (hdn : d < N) (hx : ∀ x ∈ c.args.toList, opOk N x) (hargs : c.args.toList = .tmp t :: xs) (hg : g t = .ptr n 0) (hr : Runs (Impl P) (callB k d f n xs) g () g' L) : Yl P o a w (Fin W0 N g' a o.dst) := by
  rw [hd]
  have hex : ∀ fn, P.funcs[f]? = some fn → (fn.name == "runtime.NumGoroutine") = false → fn.body.isSome = true → (execOp a.eval o).run P w = .ok (.enter f (c.args.map a.eval)) w := by
    intro fn h1 h2 h3
    have h4 : fn.name ≠ "runtime.NumGoroutine" := by simpa using h2
    obtain ⟨cd, hcd⟩ := Option.isSome_iff_exists.1 h3
    unfold execOp
    rw [ho]
    simp [resolve, hc, Act.eval, Deferred.ofValue, invoke, callFunc, h1, h4, hcd]
  have hsl := h.sl t (hx (.tmp t) (by rw [hargs]; exact List.mem_cons_self) t rfl)
  rw [hg] at hsl
  obtain ⟨_, b, z, hb, hval⟩ := hsl
  unfold callB at hr
  obtain ⟨ars, g1, L1, L2, r1, r2, _⟩ := Runs.bind_inv hr
  obtain ⟨L3, r3⟩ := runs_rd r2
  split at r3
  case h_2 => exact (runs_fail r3).elim
  rename_i z' hz'
  split at r3
  case isFalse => exact (runs_fail r3).elim
  rename_i hzok
  obtain ⟨rfl, hok⟩ := hzok
  obtain ⟨G1, k1, k2, k3, k4⟩ := takes_snd h (fun x hx' => hx x (by rw [hargs]; exact List.mem_cons_of_mem _ hx')) r1 hok
  have hb1 : G1.bx n = some (b, z) := by rw [k2.bx]; exact hb
  have hz1 := k1.bs n b z hb1 1 hz'
  have hz1 : z = 1 := by omega
  subst hz1
  obtain ⟨L4, r4⟩ := runs_rd r3
  split at r4
  case isFalse => exact (runs_fail r4).elim
  rename_i hsc
  obtain ⟨r, hI, r5⟩ := runs_call r4
  obtain ⟨rr, c', rfl, hI2⟩ := hI.p
  dsimp only at r5
  split at r5
  case isFalse => exact (runs_fail r5).elim
  rename_i hsc'
  obtain ⟨x1, x2, x3, x4, arr, ty, x5, x6, x7⟩ := k1.bx n b 1 hb1
  obtain ⟨y0, hy0⟩ : ∃ y0, arr = #[y0] := by
    refine ⟨arr[0], ?_⟩
    apply Array.ext
    · simp [x6]
    · intro i h1 h2
      have : i = 0 := by omega
      subst this; rfl
  subst hy0
  have hRB := x7 0 y0 (by omega) rfl
  obtain ⟨hcell, htk⟩ := scal1_any hRB.rp hsc w G1.F
  obtain ⟨fn, f1, f2, f3⟩ := hI2.fn
  unfold Yl
  rw [hex fn f1 f2 f3]
  have hargs2 : c.args.map a.eval = (Value.pointer (some ⟨b, 0, none⟩) :: xs.map a.eval).toArray := by
    apply Array.toList_inj.1
    rw [Array.toList_map, hargs, List.map_cons]
    have : a.eval (.tmp t) = .pointer (some ⟨b, 0, none⟩) := hval
    rw [this]
  dsimp only
  rw [hargs2]
  refine (hI2.calls G1.F w b y0 ty (xs.map a.eval) x5 x4 hcell (by simp [k3]) (fun j e v he hv => ?_) k1.F).mono fun e w' hx' => ?_
  · rw [List.getElem?_map] at hv
    obtain ⟨x, hx1, rfl⟩ := Option.map_eq_some_iff.1 hv
    exact k4 j e x he hx1
  · obtain ⟨y, v, S, ts, rfl, hbel, hcy, hRT, hnd, hts, hS⟩ := hx'
    refine ⟨v, rfl, ?_⟩
    obtain ⟨_, r6⟩ := runs_upd r5
    have hna : ∀ l', c' ≠ AV.agg l' := by intro l' e; subst e; cases hsc'
    obtain ⟨G2, m1, m2, m3⟩ := k1.stBox (v := c') (y := y) (ts := []) (X' := []) hb1 (c := 0) (by omega) (hcy w G1.F) hna rfl (fun s nl sz dp l e => by subst e; cases hsc')
    have hsz : (w.setCell ⟨b, 0, none⟩ y).heap.size = w.heap.size := setCell_size _ _ _ _
    have q1 := m1.grow (w' := w') (by rw [hsz]; exact hbel) (ts := ts) S (fun b hb => by rw [hsz]; exact hts b hb) hnd (fun b hb => by rw [hsz]; exact hS b hb)
    rw [List.append_nil] at q1
    rw [← m2] at hRT
    obtain ⟨w1, w2⟩ := rt_rv (G := ⟨fun b => G2.F b ∨ S b, G2.bx, G2.tk⟩) (g := upd g1 (loc n 0) c') (a := a) rfl hRT (k + 1)
    exact put_fin q1 hdn w1 ⟨[], by simp⟩ (no_stp w2 ((Less.upd (by cases c' <;> first | rfl | cases hsc')).noSt (k2.less.noSt hn))) r6
theorem call_snd (hE : E.tb.okB P = true) (h : Rel W0 N G g a w []) (hn : NoSt (k + 1) g) {c : Call} {f : Nat} (ho : o.op = .call c) (hc : c.callee = .value (.func f)) (hd : o.dst = some d) (hdn : d < N) (hx : ∀ x ∈ c.args.toList, opOk N x) (hr : Runs (Impl P) (callP E k d f c.args.toList) g () g' L) : Yl P o a w (Fin W0 N g' a o.dst) := by
  unfold callP at hr
  split at hr
  · rename_i t xs' hargs
    obtain ⟨L1, r1⟩ := runs_rd hr
    split at r1
    · rename_i n hg
      exact call_sndB hE h hn ho hc hd hdn hx hargs hg r1
    · exact call_sndQ hE h hn ho hc hd hdn hx r1
  · exact call_sndQ hE h hn ho hc hd hdn hx hr
end
end Go.Proofs.Ytjihjjbieeofdaa.T
namespace Go.Proofs.Ytjihjjbieeofdaa.T
set_option linter.unusedSimpArgs false
set_option linter.unusedVariables false
open Go Go.RowKit
set_option linter.unusedVariables false
set_option linter.unusedSimpArgs false
section
variable {P : Program} {W0 : Bs} {N : Nat} {G G' : Gh} {g g' : Nat → AV} {a a' : Act} {w w' : World} {X X' : List Nat} {L : Lg} {k d : Nat} {E : Env} {o : Oper}
theorem opD_snd (hE : E.tb.okB P = true) (h : Rel W0 N G g a w []) (hn : NoSt (k + 1) g) (hx : ∀ x ∈ o.op.operands.toList, opOk N x) (hd : o.dst = some d) (hdn : d < N) (hr : Runs (Impl P) (opD E k d o.op) g () g' L) : Yl P o a w (Fin W0 N g' a o.dst) := by
  cases ho : o.op with
  | move x =>
    rw [ho] at hr hx
    exact moveP_snd h hn ho hd hdn (hx x (by simp [Op.operands])) hr
  | assign x =>
    rw [ho] at hr hx
    exact assign_snd h hn ho hd hdn (hx x (by simp [Op.operands])) hr
  | pick x y z =>
    rw [ho] at hr hx
    exact pick_snd h ho hd hdn (hx x (by simp [Op.operands])) (hx y (by simp [Op.operands])) (hx z (by simp [Op.operands])) hr
  | alloc e =>
    rw [ho] at hr
    simp only [opD] at hr
    split at hr
    · exact alloc_snd hE h hn ho hd hdn (by assumption) hr
    · exact (runs_fail hr).elim
  | box e x =>
    rw [ho] at hr hx
    simp only [opD] at hr
    split at hr
    · exact box_snd hE h hn ho hd hdn (hx x (by simp [Op.operands])) (by assumption) hr
    · exact (runs_fail hr).elim
  | build t ps =>
    rw [ho] at hr hx
    simp only [opD, partsK_eq] at hr
    split at hr
    · split at hr
      · split at hr
        · exact build_snd hE h hn ho hd hdn (fun p hp => hx p.2 (by simp only [Op.operands]; exact List.mem_map.2 ⟨p, hp, rfl⟩)) (by assumption) (by assumption) (by assumption) hr
        · exact (runs_fail hr).elim
      · exact (runs_fail hr).elim
    · exact (runs_fail hr).elim
  | buildSlice t n ps =>
    rw [ho] at hr hx
    simp only [opD, partsK_eq] at hr
    split at hr
    · split at hr
      · exact bsP_snd hE h ho hd hdn (fun p hp => hx p.2 (by simp only [Op.operands]; exact List.mem_map.2 ⟨p, hp, rfl⟩)) (by assumption) (by assumption) hr
      · exact buildSlice_snd hE h hn ho hd hdn (fun p hp => hx p.2 (by simp only [Op.operands]; exact List.mem_map.2 ⟨p, hp, rfl⟩)) (by assumption) hr
    · exact (runs_fail hr).elim
  | load t x =>
    rw [ho] at hr hx
    simp only [opD] at hr
    split at hr
    · exact load_snd hE h ho hd hdn (hx x (by simp [Op.operands])) (by assumption) hr
    · exact (runs_fail hr).elim
  | nilCheck x =>
    rw [ho] at hr hx
    exact nilCheck_snd h ho hd hdn (hx x (by simp [Op.operands])) hr
  | binOp op t x y yt =>
    rw [ho] at hr hx
    exact binP_snd hE h ho hd hdn (hx x (by simp [Op.operands])) (hx y (by simp [Op.operands])) hr
  | unOp op t x =>
    rw [ho] at hr hx
    exact unOp_snd h ho hd hdn (hx x (by simp [Op.operands])) hr
  | convert s t x =>
    rw [ho] at hr hx
    simp only [opD] at hr
    split at hr
    · exact conv_snd hE h ho hd hdn (hx x (by simp [Op.operands])) (by assumption) (by assumption) hr
    · exact (runs_fail hr).elim
  | makeSlice t x y =>
    rw [ho] at hr hx
    simp only [opD] at hr
    split at hr
    · exact make_snd hE h hn ho hd hdn (hx x (by simp [Op.operands])) (hx y (by simp [Op.operands])) (by assumption) hr
    · exact (runs_fail hr).elim
  | slice t x lo hi mx =>
    rw [ho] at hr hx
    simp only [opD] at hr
    split at hr
    · exact slice_snd hE h hn ho hd hdn (hx x (by simp [Op.operands])) (fun y e => hx y (by subst e; simp [Op.operands])) (fun y e => hx y (by subst e; simp [Op.operands])) hr
    · split at hr
      · split at hr
        · split at hr
          · exact slice0_snd hE h hn ho hd hdn (hx x (by simp [Op.operands])) (by assumption) hr
          · exact (runs_fail hr).elim
        · exact (runs_fail hr).elim
      · exact (runs_fail hr).elim
    · exact (runs_fail hr).elim
  | fieldAddr t x f =>
    rw [ho] at hr hx
    simp only [opD] at hr
    split at hr
    · split at hr
      · exact fieldAddr_snd hE h ho hd hdn (hx x (by simp [Op.operands])) (by assumption) (by assumption) hr
      · exact (runs_fail hr).elim
    · exact (runs_fail hr).elim
  | field t x f =>
    rw [ho] at hr hx
    simp only [opD] at hr
    split at hr
    · split at hr
      · exact field_snd hE h ho hd hdn (hx x (by simp [Op.operands])) (by assumption) (by assumption) hr
      · exact (runs_fail hr).elim
    · exact (runs_fail hr).elim
  | indexAddr t x ix =>
    rw [ho] at hr hx
    simp only [opD] at hr
    split at hr
    · exact indexAddr_snd hE h ho hd hdn (hx x (by simp [Op.operands])) (hx ix (by simp [Op.operands])) (by assumption) hr
    · exact (runs_fail hr).elim
  | index t x ix =>
    rw [ho] at hr hx
    simp only [opD] at hr
    split at hr
    · split at hr
      · exact index_snd hE h ho hd hdn (hx x (by simp [Op.operands])) (hx ix (by simp [Op.operands])) (by assumption) (by assumption) hr
      · exact (runs_fail hr).elim
    · exact (runs_fail hr).elim
  | extract x j =>
    rw [ho] at hr hx
    simp only [opD] at hr
    split at hr
    · exact extract_snd h hn ho hd hdn (hx _ (by simp [Op.operands]) _ rfl) hr
    · exact (runs_fail hr).elim
  | call c =>
    rw [ho] at hr hx
    simp only [opD] at hr
    have ha : ∀ x ∈ c.args.toList, opOk N x := fun x hm => hx x (by simp only [Op.operands, Call.operands, Array.toList_append]; exact List.mem_append_right _ hm)
    split at hr
    · split at hr
      · rename_i e1 e2
        exact len_snd hE h ho (by assumption) e1 hd hdn (ha _ (by rw [e1]; simp)) e2 hr
      · exact (runs_fail hr).elim
    · split at hr
      · rename_i e1 e2
        split at hr
        · rename_i e3
          subst e3
          split at hr
          · exact app_snd hE h hn ho (by assumption) e1 e2 hd hdn (ha _ (by rw [e1]; simp)) (ha _ (by rw [e1]; simp)) (by assumption) hr
          · exact (runs_fail hr).elim
        · exact (runs_fail hr).elim
      · exact (runs_fail hr).elim
    · split at hr
      · rename_i e1
        exact max_snd h ho (by assumption) e1 hd hdn (ha _ (by rw [e1]; simp)) (ha _ (by rw [e1]; simp)) hr
      · exact (runs_fail hr).elim
    · split at hr
      · rename_i e1
        exact min_snd h ho (by assumption) e1 hd hdn (ha _ (by rw [e1]; simp)) (ha _ (by rw [e1]; simp)) hr
      · exact (runs_fail hr).elim
    · exact call_snd hE h hn ho (by assumption) hd hdn ha hr
    · exact (runs_fail hr).elim
  | _ =>
    rw [ho] at hr
    simp only [opD] at hr
    exact (runs_fail hr).elim
theorem opG_snd (hE : E.tb.okB P = true) (h : Rel W0 N G g a w []) (hn : NoSt (k + 1) g) (hx : ∀ x ∈ o.op.operands.toList, opOk N x) (hdn : ∀ d, o.dst = some d → d < N) (hr : Runs (Impl P) (opG E k o) g () g' L) : Yl P o a w (Fin W0 N g' a o.dst) := by
  unfold opG at hr
  split at hr
  · rename_i d hd
    exact opD_snd hE h hn hx hd (hdn d hd) hr
  · rename_i hd
    split at hr
    · rename_i t q x ho
      rw [ho] at hx
      split at hr
      · exact store_snd hE h hn ho hd (hx x (by simp [Op.operands])) (hx q (by simp [Op.operands])) (by assumption) hr
      · exact (runs_fail hr).elim
    · exact (runs_fail hr).elim
/-- What a copying operation made. -/
def cpy (o : Oper) (a : Act) (x : Value) : Prop := match o.op with
  | .assign (.tmp t) => x = a.tmps.getD t undef
  | .extract (.tmp t) j => ∃ vs, a.tmps.getD t undef = .tuple vs ∧ vs[j]? = some x
  | _ => True
def Did (o : Oper) (a a' : Act) : Prop := ∃ x, a' = a.put o.dst x ∧ (o.guard = none → cpy o a x)
theorem cpy_val {r : Next} (e : (execOp a.eval o).run P w = .ok r w') : ∀ x, (r = .value x ∨ ∀ y, r ≠ .value y) → cpy o a x := by
  intro x hr
  unfold cpy
  split
  · rename_i t ho
    unfold execOp at e
    rw [ho] at e
    have e : Next.value (a.eval (.tmp t)) = r := by simp at e; exact e.1
    rcases hr with hr | hr
    · rw [hr] at e; injection e with e; exact e.symm
    · exact absurd e.symm (hr _)
  · rename_i t j ho
    unfold execOp at e
    rw [ho] at e
    dsimp only at e
    have hev : a.eval (.tmp t) = a.tmps.getD t undef := rfl
    rw [hev] at e
    generalize a.tmps.getD t undef = u at e
    cases u with
    | tuple vs =>
      refine ⟨vs, rfl, ?_⟩
      cases hj : vs[j]? with
      | none => simp [Instr.extract, hj, stuck] at e
      | some y =>
        have e : Next.value y = r := by simp [Instr.extract, hj] at e; exact e.1
        rcases hr with hr | hr
        · rw [hr] at e; injection e with e; rw [e]
        · exact absurd e.symm (hr _)
    | _ => simp [Instr.extract, stuck] at e
  · trivial
/-- What an operation looks at and writes are slots of ours. -/
def opB (N : Nat) (ops : Array Oper) (o : Oper) : Bool := (o.looksAt ops).all (fun t => decide (t < N)) && (match o.dst with
  | some d => decide (d < N)
  | none => true)
theorem opS_snd {ops : Array Oper} {i : Nat} (hi : ops[i]? = some o) (hE : E.tb.okB P = true) (h : Rel W0 N G g a w []) (hn : NoSt (i + 1) g) (hB : opB N ops o = true) (hr : Runs (Impl P) (opS E ops i o) g () g' L) {Q : Exit → Act → World → Prop} {K : Act → World → Prop} (hK : ∀ G' a' w', Rel W0 N G' g' a' w' [] → Did o a a' → K a' w') : wpOp P ops Q i K a w := by
  unfold opB at hB
  simp only [Bool.and_eq_true, List.all_eq_true, decide_eq_true_eq] at hB
  obtain ⟨hB1, hB2⟩ := hB
  have hdn : ∀ d, o.dst = some d → d < N := fun d hd => by rw [hd] at hB2; simpa using hB2
  have hx : ∀ x ∈ o.op.operands.toList, opOk N x := by
    intro x hm t e
    subst e
    refine hB1 t ?_
    unfold Oper.looksAt
    exact List.mem_append_left _ (List.mem_filterMap.2 ⟨_, hm, rfl⟩)
  have main : ∀ {L} (hr : Runs (Impl P) (opG E i o) g () g' L), o.wp P a w K Q := by
    intro L hr
    have hy := opG_snd hE h hn hx hdn hr
    unfold Oper.wp
    unfold Yl at hy
    split at hy
    · rename_i e; rw [e, Oper.upon_value]; obtain ⟨G', hy⟩ := hy; exact hK G' _ _ hy ⟨_, rfl, fun _ => cpy_val e _ (.inl rfl)⟩
    · rename_i e; rw [e, Oper.upon_skip]; obtain ⟨G', hy⟩ := hy; exact hK G' _ _ hy ⟨_, rfl, fun _ => cpy_val e _ (.inr fun y h => by cases h)⟩
    · rename_i e0; rw [e0, Oper.upon_enter]
      refine hy.mono fun e w'' hx => ?_
      obtain ⟨x, rfl, G', hy⟩ := hx
      exact hK G' _ _ hy ⟨_, rfl, fun _ => cpy_val e0 _ (.inr fun y h => by cases h)⟩
    · exact hy.elim
  have left : ∀ {L}, o.guard ≠ none → Runs (Impl P) (wrd o.dst (.tup [])) g () g' L → K (a.put o.dst undef) w := by
    intro L eg r2
    unfold wrd at r2
    cases hd : o.dst with
    | none =>
      rw [hd] at r2
      obtain ⟨_, rfl⟩ := runs_ret r2
      exact hK G _ _ h ⟨undef, by rw [hd], fun h => absurd h eg⟩
    | some d =>
      rw [hd] at r2
      obtain ⟨G', hf⟩ := put_idle (x := undef) h (hdn d hd) (v := .tup []) ⟨#[], rfl, rfl, fun _ => [], rfl, fun j e y he => by simp at he⟩ rfl r2
      exact hK G' _ _ hf ⟨undef, by rw [hd], fun h => absurd h eg⟩
  unfold wpOp
  rw [hi]
  dsimp only
  unfold opS at hr
  split at hr
  · rename_i eg
    rw [if_pos (by simp [Region.wanted, eg])]
    exact .inl (main hr)
  · rename_i j c eg
    split at hr
    · rename_i t et
      have htN : t < N := hB1 t (by
        unfold Oper.looksAt
        refine List.mem_append_right _ ?_
        rw [eg]; simp [et])
      obtain ⟨_, r1⟩ := runs_rd hr
      have hsl := h.sl t htN
      split at r1
      · rename_i x ex
        rw [ex] at hsl
        have hsl : Rp w G.F (.b x) [a.tmps.getD t undef] (G.tk t) := hsl
        have hxv : a.tmps.getD t undef = .bool x := by
          generalize a.tmps.getD t undef = y at hsl ⊢; generalize G.tk t = ts at hsl
          cases hsl
          rfl
        have hy : yielded ops a.tmps j = some x := by
          unfold yielded
          rw [et]
          have : a.tmps[t]? = some (.bool x) := by
            rw [Array.getD_eq_getD_getElem?] at hxv
            cases hq : a.tmps[t]? with
            | none => rw [hq] at hxv; simp [undef] at hxv
            | some y => rw [hq] at hxv; simpa using hxv
          simp [this]
        obtain ⟨u, eu, r1⟩ := runs_ex r1
        subst eu
        have yes : ∀ {L}, x = c → Runs (Impl P) (opG E i o) g () g' L → if Region.wanted o (yielded ops a.tmps) = true then o.wp P a w K Q ∨ (o.asks P a w ∧ LetsOut Q) else K (a.put o.dst undef) w := by
          intro L ec r2
          rw [if_pos (by simp [Region.wanted, eg, hy, ec])]
          exact .inl (main r2)
        have no : ∀ {L}, x ≠ c → Runs (Impl P) (wrd o.dst (.tup [])) g () g' L → if Region.wanted o (yielded ops a.tmps) = true then o.wp P a w K Q ∨ (o.asks P a w ∧ LetsOut Q) else K (a.put o.dst undef) w := by
          intro L ec r2
          rw [if_neg (by simp [Region.wanted, eg, hy, ec])]
          exact left (by rw [eg]; exact fun h => by cases h) r2
        cases x with
        | true =>
          dsimp only at r1
          split at r1
          · rename_i ec; exact yes ec.symm r1
          · rename_i ec; exact no (fun e => ec e.symm) r1
        | false =>
          dsimp only at r1
          split at r1
          · rename_i ec; exact no (by rw [ec]; decide) r1
          · rename_i ec; exact yes (by cases c <;> first | rfl | exact absurd rfl ec) r1
      · rename_i ex
        rw [ex] at hsl
        obtain ⟨vs, hvs, hsz, _⟩ := hsl
        have hy : yielded ops a.tmps j = none := by
          unfold yielded
          rw [et]
          show (match a.tmps[t]? with | some (.bool b) => some b | _ => none) = none
          rw [Array.getD_eq_getD_getElem?] at hvs
          cases hq : a.tmps[t]? with
          | none => rfl
          | some y =>
            rw [hq] at hvs
            have : y = .tuple vs := hvs
            rw [this]
        rw [if_neg (by simp [Region.wanted, eg, hy])]
        exact left (by rw [eg]; exact fun h => by cases h) r1
      · exact (runs_fail r1).elim
    · exact (runs_fail hr).elim
end
end Go.Proofs.Ytjihjjbieeofdaa.T
namespace Go.Proofs.Ytjihjjbieeofdaa.T
set_option linter.unusedSimpArgs false
set_option linter.unusedVariables false
open Go
set_option linter.unusedVariables false
set_option linter.unusedSimpArgs false
/-- A small number, as a numeral. -/
def natK (n : Nat) (K : Nat → Prop) : Prop :=
  match Nat.beq n 0 with
  | true => K 0
  | false =>
  match Nat.beq n 1 with
  | true => K 1
  | false =>
  match Nat.beq n 2 with
  | true => K 2
  | false =>
  match Nat.beq n 3 with
  | true => K 3
  | false =>
  match Nat.beq n 4 with
  | true => K 4
  | false =>
  match Nat.beq n 5 with
  | true => K 5
  | false =>
  match Nat.beq n 6 with
  | true => K 6
  | false =>
  match Nat.beq n 7 with
  | true => K 7
  | false =>
  match Nat.beq n 8 with
  | true => K 8
  | false =>
  match Nat.beq n 9 with
  | true => K 9
  | false =>
  match Nat.beq n 10 with
  | true => K 10
  | false =>
  match Nat.beq n 11 with
  | true => K 11
  | false =>
  match Nat.beq n 12 with
  | true => K 12
  | false =>
  match Nat.beq n 13 with
  | true => K 13
  | false =>
  match Nat.beq n 14 with
  | true => K 14
  | false =>
  match Nat.beq n 15 with
  | true => K 15
  | false =>
  match Nat.beq n 16 with
  | true => K 16
  | false =>
  match Nat.beq n 17 with
  | true => K 17
  | false =>
  match Nat.beq n 18 with
  | true => K 18
  | false =>
  match Nat.beq n 19 with
  | true => K 19
  | false =>
  match Nat.beq n 20 with
  | true => K 20
  | false =>
  match Nat.beq n 21 with
  | true => K 21
  | false =>
  match Nat.beq n 22 with
  | true => K 22
  | false =>
  match Nat.beq n 23 with
  | true => K 23
  | false =>
  K n
theorem natK_eq (n : Nat) (K : Nat → Prop) : natK n K = K n := by
  have h : ∀ m : Nat, ∀ Z : Prop, (Z = K n) → (match Nat.beq n m with | true => K m | false => Z) = K n := by
    intro m Z hZ
    cases hb : Nat.beq n m with
    | true => rw [Nat.eq_of_beq_eq_true hb]
    | false => exact hZ
  unfold natK
  repeat first
    | rfl
    | refine h _ _ ?_
/-- To a constructor. -/
def AV.fc1 (v : AV) (K : AV → Prop) : Prop := match v with
  | .any => K .any
  | .b x => K (.b x)
  | .i k n => K (.i k n)
  | .s x => K (.s x)
  | .sl (some o) nl sz true l => natK o fun o => natK sz fun sz => K (.sl (some o) nl sz true l)
  | .sl (some o) nl sz false l => natK o fun o => natK sz fun sz => K (.sl (some o) nl sz false l)
  | .sl none nl sz true l => natK sz fun sz => K (.sl none nl sz true l)
  | .sl none nl sz false l => natK sz fun sz => K (.sl none nl sz false l)
  | .agg l => K (.agg l)
  | .tup l => K (.tup l)
  | .ptr n o => K (.ptr n o)
  | .pv r ix ss => K (.pv r ix ss)
  | .ea r ix ss d u => K (.ea r ix ss d u)
  | .fa l => K (.fa l)
  | .psl l => K (.psl l)
  | .pfa n o => K (.pfa n o)
theorem AV.fc1_eq (v : AV) (K : AV → Prop) : v.fc1 K = K v := by
  cases v with
  | sl o nl sz dp l => cases o <;> cases dp <;> simp only [AV.fc1, natK_eq]
  | _ => rfl
def fcL1 : List AV → (List AV → Prop) → Prop
  | [], K => K []
  | v :: l, K => v.fc1 fun v => fcL1 l fun l => K (v :: l)
theorem fcL1_eq : ∀ (l : List AV) (K : List AV → Prop), fcL1 l K = K l
  | [], K => rfl
  | v :: l, K => by simp only [fcL1, AV.fc1_eq, fcL1_eq l]
def AV.fc2 (v : AV) (K : AV → Prop) : Prop := v.fc1 fun v => match v with
  | .agg l => fcL1 l fun l => K (.agg l)
  | v => K v
theorem AV.fc2_eq (v : AV) (K : AV → Prop) : v.fc2 K = K v := by
  unfold AV.fc2
  rw [AV.fc1_eq]
  cases v <;> first | rfl | exact fcL1_eq _ _
def fcL2 : List AV → (List AV → Prop) → Prop
  | [], K => K []
  | v :: l, K => v.fc2 fun v => fcL2 l fun l => K (v :: l)
theorem fcL2_eq : ∀ (l : List AV) (K : List AV → Prop), fcL2 l K = K l
  | [], K => rfl
  | v :: l, K => by simp only [fcL2, AV.fc2_eq, fcL2_eq l]
def AV.fc (v : AV) (K : AV → Prop) : Prop := v.fc2 fun v => match v with
  | .tup l => fcL2 l fun l => K (.tup l)
  | v => K v
theorem AV.fc_eq (v : AV) (K : AV → Prop) : v.fc K = K v := by
  unfold AV.fc
  rw [AV.fc2_eq]
  cases v <;> first | rfl | exact fcL2_eq _ _
def St.getK : St → Nat → (AV → Prop) → Prop
  | [], _, K => K .any
  | (l, v) :: g, k, K => match Nat.beq l k with
    | true => K v
    | false => St.getK g k K
def St.setK : St → Nat → AV → (St → Prop) → Prop
  | [], k, x, K => K [(k, x)]
  | (l, v) :: g, k, x, K => match Nat.beq l k with
    | true => K ((l, x) :: g)
    | false => St.setK g k x fun g => K ((l, v) :: g)
theorem St.getK_eq : ∀ (g : St) (k : Nat) (K : AV → Prop), g.getK k K = K (g.get k)
  | [], _, _ => rfl
  | (l, v) :: g, k, K => by
    unfold St.getK St.get
    by_cases h : l = k
    · subst h; simp
    · have : Nat.beq l k = false := by
        cases hb : Nat.beq l k
        · rfl
        · exact absurd (Nat.eq_of_beq_eq_true hb) h
      rw [this, if_neg h]
      exact St.getK_eq g k K
theorem St.setK_eq : ∀ (g : St) (k : Nat) (x : AV) (K : St → Prop), g.setK k x K = K (g.set k x)
  | [], _, _, _ => rfl
  | (l, v) :: g, k, x, K => by
    unfold St.setK St.set
    by_cases h : l = k
    · subst h; simp
    · have : Nat.beq l k = false := by
        cases hb : Nat.beq l k
        · rfl
        · exact absurd (Nat.eq_of_beq_eq_true hb) h
      rw [this, if_neg h]
      exact St.setK_eq g k x _
section
variable (Imp : Nat → List AV → AV → Prop)
def ev {α : Type} : Pg α → St → List Nat → List Nat → List Nat → (α → St → List Nat → List Nat → List Nat → Prop) → Prop
  | .ret a, g, r, w, s, K => K a g r w s
  | .rd l k, g, r, w, s, K => g.getK l fun v => ev (k v) g (l :: r) w s K
  | .wr l v k, g, r, w, s, K => v.fc fun v => g.setK l v fun g => ev k g r (l :: w) (v.pst ++ s) K
  | .need c k, g, r, w, s, K => c ∧ ev k g r w s K
  | .ex p k, g, r, w, s, K => ∃ v, p v ∧ ev (k v) g r w s K
  | .call f ars k, g, r, w, s, K => fcL2 ars fun ars => ∃ v, Imp f ars v ∧ ev (k v) g r w s K
  | .fc l k, g, r, w, s, K => fcL2 l fun l => ev (k l) g r w s K
  | .fail, _, _, _, _, _ => False
theorem ev_wp {α : Type} (p : Pg α) : ∀ (g : St) (r w s : List Nat) (K : α → St → List Nat → List Nat → List Nat → Prop), ev Imp p g r w s K = p.wp Imp g ⟨r, w, s⟩ fun a g L => K a g L.r L.w L.s := by
  induction p with
  | ret a => intros; rfl
  | rd l k ih => intro g r w s K; simp only [ev, Pg.wp, St.getK_eq, ih]
  | wr l v k ih => intro g r w s K; simp only [ev, Pg.wp, AV.fc_eq, St.setK_eq, ih]
  | need c k ih => intro g r w s K; simp only [ev, Pg.wp, ih]
  | ex p k ih => intro g r w s K; simp only [ev, Pg.wp, ih]
  | call f ars k ih => intro g r w s K; simp only [ev, Pg.wp, fcL2_eq, ih]
  | fc l k ih => intro g r w s K; simp only [ev, Pg.wp, fcL2_eq, ih]
  | fail => intros; rfl
def opsE (E : Env) (ops : Array Oper) : Nat → List Oper → St → List Lg → (St → List Lg → Prop) → Prop
  | _, [], g, Ls, K => K g Ls
  | i, o :: os, g, Ls, K => ev Imp (opS E ops i o) g [] [] [] fun _ g r w s => opsE E ops (i + 1) os g (⟨r, w, s⟩ :: Ls) K
end
/-- Logs that tell the same. -/
def Lg.same (A B : Lg) : Prop := (∀ x, x ∈ A.r ↔ x ∈ B.r) ∧ (∀ x, x ∈ A.w ↔ x ∈ B.w) ∧ ∀ x, x ∈ A.s ↔ x ∈ B.s
section
variable {Imp : Nat → List AV → AV → Prop} {E : Env} {ops : Array Oper}
theorem opsE_runs : ∀ (os : List Oper) (i : Nat) (g : St) (Ls : List Lg) (K : St → List Lg → Prop), opsE Imp E ops i os g Ls K →
    ∃ (gs : Nat → Nat → AV) (Lx Ly : Nat → Lg) (g' : St), gs 0 = g.get ∧ gs os.length = g'.get ∧ (∀ j o, os[j]? = some o → Runs Imp (opS E ops (i + j) o) (gs j) () (gs (j + 1)) (Lx j)) ∧ (∀ j, j < os.length → (Ly j).same (Lx j)) ∧ K g' (((List.range os.length).map Ly).reverse ++ Ls)
  | [], i, g, Ls, K, h => ⟨fun _ => g.get, fun _ => ⟨[], [], []⟩, fun _ => ⟨[], [], []⟩, g, rfl, rfl, fun j o h => (by cases h), fun j hj => absurd hj (Nat.not_lt_zero _), h⟩
  | o :: os, i, g, Ls, K, h => by
    unfold opsE at h
    rw [ev_wp] at h
    obtain ⟨_, g1, L1, hr, L2, hK, e1, e2, e3⟩ := Pg.wp_runs _ _ _ _ h
    obtain ⟨gs, Lx, Ly, g', q1, q2, q3, q4, q5⟩ := opsE_runs os (i + 1) g1 _ K hK
    refine ⟨fun j => if j = 0 then g.get else gs (j - 1), fun j => if j = 0 then L1 else Lx (j - 1), fun j => if j = 0 then L2 else Ly (j - 1), g', rfl, by simpa using q2, fun j o' ho => ?_, fun j hj => ?_, ?_⟩
    · cases j with
      | zero =>
        simp only [List.getElem?_cons_zero, Option.some.injEq] at ho
        subst ho
        simpa [q1] using hr
      | succ j =>
        simp only [List.getElem?_cons_succ] at ho
        have := q3 j o' ho
        rw [show i + 1 + j = i + (j + 1) by omega] at this
        simpa using this
    · cases j with
      | zero => exact ⟨fun x => by simpa using e1 x, fun x => by simpa using e2 x, fun x => by simpa using e3 x⟩
      | succ j => exact q4 j (by simpa using hj)
    · rw [List.length_cons, List.range_succ_eq_map, List.map_cons, List.map_map, List.reverse_cons, List.append_assoc]
      have : (fun j => if j = 0 then L2 else Ly (j - 1)) ∘ Nat.succ = Ly := by funext j; simp
      rw [this]
      exact q5
end
end Go.Proofs.Ytjihjjbieeofdaa.T

