/- What functions of the program come to, on trees. No condition but those that the theorems name. -/
import Derived.LoopN
import Derived.Laws.BitsLemmas
import Derived.Laws.Bits64
import Derived.Test.YtjihjjbieeofdaaProg
import Derived.KernelRfl
import Derived.Test.YtjihjjbieeofdaaPK2
namespace Go.Proofs.Ytjihjjbieeofdaa.T
set_option linter.unusedSimpArgs false
set_option linter.unusedVariables false
open Go Go.RowKit
set_option linter.unusedVariables false
set_option linter.unusedSimpArgs false
/-- The operations that one waits for, all of them, as a number's bits. -/
def maskE (acc : List Nat) : List Edge → Nat
  | [] => 0
  | e :: es => if Region.binds .any e = true then (acc.getD e.on 0 ||| 2 ^ e.on) ||| maskE acc es else maskE acc es
def masks : List Oper → List Nat → List Nat
  | [], acc => acc
  | o :: os, acc => masks os (acc ++ [maskE acc o.after.toList])
def clash (A B : Lg) : Bool := A.w.any (fun l => B.r.contains l || B.w.contains l) || A.r.any (fun l => B.w.contains l)
def e0 : Lg := ⟨[], [], []⟩
/-- What isn't ordered shares reads alone; stamps are told behind those who made them. -/
def okL (ms : List Nat) (Ls : List Lg) : Bool := (List.range Ls.length).all fun j => (List.range j).all (fun i => (ms.getD j 0).testBit i || !clash (Ls.getD i e0) (Ls.getD j e0)) && (Ls.getD j e0).s.all fun s => s == 0 || s == j + 1 || (ms.getD j 0).testBit (s - 1)
def okT (Ls : List Lg) : Bool := (List.range Ls.length).all fun j => (Ls.getD j e0).s.all fun s => decide (s ≤ j + 1)
def okE (os : List Oper) : Bool := (List.range os.length).all fun i => match os[i]? with
  | some o => o.after.toList.all fun e => !Region.binds .any e || decide (e.on < i)
  | none => true
def regB (draw : Bool) (N : Nat) (ops : Array Oper) (Ls : List Lg) : Bool := ops.toList.all (opB N ops) && (if draw then okE ops.toList && okL (masks ops.toList []) Ls else okT Ls)
def NoPl (g : Nat → AV) : Prop := ∀ l, ∀ s ∈ (g l).pst, s = 0
section
variable {P : Program} {W0 : Bs} {N : Nat} {G G' : Gh} {g g' : Nat → AV} {a a' : Act} {w w' : World} {E : Env} {ops : Array Oper}
theorem opB_of {n : Nat} {o : Oper} (h : ops.toList.all (opB N ops) = true) (ho : ops[n]? = some o) : opB N ops o = true :=
  List.all_eq_true.1 h o (by rw [← Array.getElem?_toList] at ho; exact List.mem_of_getElem? ho)
/-- The operations in text order, known places all along. -/
structure Line (P : Program) (E : Env) (ops : Array Oper) (gs : Nat → Nat → AV) (Ls : Nat → Lg) : Prop where
  run : ∀ j o, ops[j]? = some o → Runs (Impl P) (opS E ops j o) (gs j) () (gs (j + 1)) (Ls j)
  no : NoPl (gs 0)
/-- Slots that no operation writes stay. -/
def Stays (ops : Array Oper) (a a' : Act) : Prop := ∀ t, (∀ (j : Nat) (o : Oper), ops[j]? = some o → o.dst ≠ some t) → a'.tmps.getD t undef = a.tmps.getD t undef
theorem Stays.refl (ops : Array Oper) (a : Act) : Stays ops a a := fun _ _ => rfl
theorem put_getD {a : Act} {o : Oper} {x : Value} {t : Nat} (h : o.dst ≠ some t) : (a.put o.dst x).tmps.getD t undef = a.tmps.getD t undef := by
  unfold Act.put
  cases hd : o.dst with
  | none => rfl
  | some d =>
    have hdt : d ≠ t := fun e => h (by rw [hd, e])
    simp only [Array.getD_eq_getD_getElem?]
    congr 1
    simp [Array.getElem?_setIfInBounds, hdt]
theorem put_own {a : Act} {o : Oper} {x : Value} {d : Nat} (h : o.dst = some d) (hd : d < a.tmps.size) : (a.put o.dst x).tmps.getD d undef = x := by
  unfold Act.put
  rw [h]
  simp [Array.getD_eq_getD_getElem?, hd]
/-- Nobody else writes what the operation i writes, and whoever writes what it copies comes ahead of it. -/
def Sole (ops : Array Oper) (an : Nat → Nat → Prop) (i : Nat) : Prop := ∀ (o : Oper), ops[i]? = some o → ∀ d, o.dst = some d → (∀ (k : Nat) (o' : Oper), ops[k]? = some o' → o'.dst = some d → k = i) ∧ ∀ t, (match o.op with
  | .assign (.tmp t') => t' = t
  | .extract (.tmp t') _ => t' = t
  | _ => False) → t ≠ d ∧ ∀ (k : Nat) (o' : Oper), ops[k]? = some o' → o'.dst = some t → an i k
def cpyAt (o : Oper) (a : Act) : Prop := ∀ d, o.dst = some d → cpy o a (a.tmps.getD d undef)
structure Kpt (ops : Array Oper) (an : Nat → Nat → Prop) (S : Nat → Bool) (a0 a : Act) : Prop where
  st : Stays ops a0 a
  cp : ∀ (i : Nat) (o : Oper), S i = true → ops[i]? = some o → o.guard = none → Sole ops an i → cpyAt o a
theorem Kpt.first (ops : Array Oper) (an : Nat → Nat → Prop) (a : Act) : Kpt ops an (fun _ => false) a a := ⟨fun _ _ => rfl, fun i o h => by cases h⟩
theorem Kpt.put {ops : Array Oper} {an : Nat → Nat → Prop} {S S' : Nat → Bool} {a0 a a' : Act} {j : Nat} {o : Oper} (h : Kpt ops an S a0 a) (ho : ops[j]? = some o) (hj : S j = false) (hS : ∀ i, S' i = true → i = j ∨ S i = true) (hup : ∀ i x, S i = true → an i x → S x = true) (hN : ∀ d, o.dst = some d → d < a.tmps.size) (h2 : Did o a a') : Kpt ops an S' a0 a' := by
  obtain ⟨x, rfl, hx⟩ := h2
  refine ⟨fun t ht => (put_getD (ht j o ho)).trans (h.st t ht), fun i oi hi hoi hg hs d hd => ?_⟩
  obtain ⟨s1, s2⟩ := hs oi hoi d hd
  rcases hS i hi with rfl | hi
  · rw [ho] at hoi; cases hoi
    rw [put_own hd (hN d hd)]
    have := hx hg
    unfold cpy at this ⊢
    split
    · rename_i t hop
      simp only [hop] at this
      obtain ⟨s3, _⟩ := s2 t (by rw [hop])
      rw [this, put_getD (by rw [hd]; exact fun e => s3 (by cases e; rfl))]
    · rename_i t q hop
      simp only [hop] at this
      obtain ⟨s3, _⟩ := s2 t (by rw [hop])
      obtain ⟨vs, e1, e2⟩ := this
      exact ⟨vs, by rw [put_getD (by rw [hd]; exact fun e => s3 (by cases e; rfl))]; exact e1, e2⟩
    · trivial
  · have hij : i ≠ j := fun e => by rw [e, hj] at hi; cases hi
    have hdj : o.dst ≠ some d := fun e => hij (s1 j o ho e).symm
    have := h.cp i oi hi hoi hg hs d hd
    rw [put_getD hdj]
    unfold cpy at this ⊢
    split
    · rename_i t hop
      simp only [hop] at this
      obtain ⟨s3, s4⟩ := s2 t (by rw [hop])
      have htj : o.dst ≠ some t := fun e => by have := hup i j hi (s4 j o ho e); rw [hj] at this; cases this
      rw [this, put_getD htj]
    · rename_i t q hop
      simp only [hop] at this
      obtain ⟨s3, s4⟩ := s2 t (by rw [hop])
      have htj : o.dst ≠ some t := fun e => by have := hup i j hi (s4 j o ho e); rw [hj] at this; cases this
      obtain ⟨vs, e1, e2⟩ := this
      exact ⟨vs, by rw [put_getD htj]; exact e1, e2⟩
    · trivial
theorem opB_dst {N : Nat} {ops : Array Oper} {o : Oper} (h : opB N ops o = true) {d : Nat} (hd : o.dst = some d) : d < N := by
  unfold opB at h
  rw [Bool.and_eq_true, hd] at h
  simpa using h.2
theorem text_ops {Q : Exit → Act → World → Prop} {gs : Nat → Nat → AV} {Ls : Nat → Lg} (hE : E.tb.okB P = true) (hB : ops.toList.all (opB N ops) = true) (h : Line P E ops gs Ls) (hs : ∀ j, j < ops.size → ∀ s ∈ (Ls j).s, s ≤ j + 1) {a0 : Act} {an : Nat → Nat → Prop} (han : ∀ i x, an i x → x < i) (hK : ∀ G a w, Rel W0 N G (gs ops.size) a w [] → Kpt ops an (fun i => decide (i < ops.size)) a0 a → Q .normal a w) : ∀ (m i : Nat) (G : Gh) (a : Act) (w : World), i + m = ops.size → Rel W0 N G (gs i) a w [] → Kpt ops an (fun j => decide (j < i)) a0 a → (∀ l, ∀ s ∈ (gs i l).pst, s ≤ i) → wpOps P ops Q ((List.range m).map (i + ·)) a w
  | 0, i, G, a, w, hi, hr, hst, hn => by
    have : i = ops.size := by omega
    subst this
    exact hK G a w hr hst
  | m + 1, i, G, a, w, hi, hr, hst, hn => by
    have hlt : i < ops.size := by omega
    have ho : ops[i]? = some ops[i] := Array.getElem?_eq_getElem hlt
    rw [List.range_succ_eq_map, List.map_cons, List.map_map, wpOps_cons]
    have e : ((fun x => i + x) ∘ Nat.succ) = fun x => (i + 1) + x := by funext x; simp only [Function.comp]; omega
    rw [Nat.add_zero, e]
    have hr1 := h.run i _ ho
    refine opS_snd ho hE hr (fun l hl => ?_) (opB_of hB ho) hr1 (fun G' a' w' hr' hx => text_ops hE hB h hs han hK m (i + 1) G' a' w' (by omega) hr' (hst.put ho (by simp) (fun j hj => by simp at hj ⊢; omega) (fun j x hj hx => by have := han j x hx; simp at hj ⊢; omega) (fun d hd => by rw [hr.hs]; exact opB_dst (opB_of hB ho) hd) hx) (fun l s hl => ?_))
    · have := hn l _ hl; omega
    · by_cases e : l ∈ (Ls i).w
      · exact hs i hlt s (hr1.stamps l e s hl)
      · rw [hr1.off l e] at hl
        have := hn l s hl
        omega
/-! ### Every order -/
/-- What places hold when the operations of S (below m) have run. -/
def cur (gs : Nat → Nat → AV) (Ls : Nat → Lg) (S : Nat → Bool) : Nat → Nat → AV
  | 0 => gs 0
  | m + 1 => fun l => if S m = true ∧ l ∈ (Ls m).w then gs (m + 1) l else cur gs Ls S m l
/-- What is asked of the edges and the logs. -/
structure Fit (ops : Array Oper) (Ls : Nat → Lg) (an : Nat → Nat → Prop) : Prop where
  edge : ∀ (i : Nat) (o : Oper) (e : Edge), ops[i]? = some o → e ∈ o.after → Region.binds .any e = true → e.on < i
  anc : ∀ (i : Nat) (o : Oper) (x : Nat), ops[i]? = some o → an i x → ∃ e ∈ o.after, Region.binds .any e = true ∧ (x = e.on ∨ an e.on x)
  apart : ∀ i j, i < j → j < ops.size → ¬ an j i → (∀ l ∈ (Ls i).w, l ∉ (Ls j).r ∧ l ∉ (Ls j).w) ∧ ∀ l ∈ (Ls i).r, l ∉ (Ls j).w
  st : ∀ j, j < ops.size → ∀ s ∈ (Ls j).s, s = 0 ∨ s = j + 1 ∨ ∃ x, s = x + 1 ∧ an j x
structure Cl (n : Nat) (an : Nat → Nat → Prop) (S : Nat → Bool) : Prop where
  up : ∀ i x, S i = true → an i x → S x = true
  lt : ∀ i, S i = true → i < n
variable {gs : Nat → Nat → AV} {Ls : Nat → Lg} {an : Nat → Nat → Prop} {S : Nat → Bool}
theorem Line.off (h : Line P E ops gs Ls) {m l : Nat} (hm : m < ops.size) (hl : l ∉ (Ls m).w) : gs (m + 1) l = gs m l := (h.run m _ (Array.getElem?_eq_getElem hm)).off l hl
/-- What the next one touches is as it is in text order. -/
theorem cur_eq (h : Line P E ops gs Ls) (hf : Fit ops Ls an) (hS : Cl ops.size an S) {i l : Nat} (hi : i < ops.size) (hnot : S i = false) (hanc : ∀ x, an i x → S x = true) (hl : l ∈ (Ls i).r ∨ l ∈ (Ls i).w) : ∀ m, m ≤ ops.size → (m ≤ i → cur gs Ls S m l = gs m l) ∧ (i ≤ m → cur gs Ls S m l = gs i l)
  | 0, _ => ⟨fun _ => rfl, fun h0 => by have : i = 0 := by omega
                                        subst this; rfl⟩
  | m + 1, hm => by
    obtain ⟨h1, h2⟩ := cur_eq h hf hS hi hnot hanc hl m (by omega)
    have key1 : m < i → cur gs Ls S (m + 1) l = gs (m + 1) l := by
      intro hmi
      unfold cur
      by_cases hw : l ∈ (Ls m).w
      · by_cases hSm : S m = true
        · rw [if_pos ⟨hSm, hw⟩]
        · obtain ⟨a1, _⟩ := hf.apart m i hmi hi (fun ha => hSm (hanc m ha))
          have := a1 l hw
          exact absurd hl (fun hl => hl.elim this.1 this.2)
      · rw [if_neg (fun hh => hw hh.2), h1 (by omega), h.off (by omega) hw]
    have key2 : i ≤ m → cur gs Ls S (m + 1) l = gs i l := by
      intro him
      unfold cur
      rw [if_neg, h2 him]
      rintro ⟨hSm, hw⟩
      rcases Nat.lt_or_eq_of_le him with hlt | heq
      · obtain ⟨a1, a2⟩ := hf.apart i m hlt (by omega) (fun ha => by rw [hS.up m i hSm ha] at hnot; cases hnot)
        rcases hl with hl | hl
        · exact a2 l hl hw
        · exact (a1 l hl).2 hw
      · subst heq; rw [hSm] at hnot; cases hnot
    refine ⟨fun hle => key1 (by omega), fun hle => ?_⟩
    rcases Nat.lt_or_eq_of_le hle with hlt | heq
    · exact key2 (by omega)
    · rw [heq]; exact key1 (by omega)
theorem cur_add (h : Line P E ops gs Ls) (hf : Fit ops Ls an) (hS : Cl ops.size an S) {i : Nat} (hi : i < ops.size) (hnot : S i = false) (hanc : ∀ x, an i x → S x = true) (l : Nat) : ∀ m, m ≤ ops.size → cur gs Ls (fun x => S x || x == i) m l = if i < m ∧ l ∈ (Ls i).w then gs (i + 1) l else cur gs Ls S m l
  | 0, _ => by simp [cur]
  | m + 1, hm => by
    have ih := cur_add h hf hS hi hnot hanc l m (by omega)
    unfold cur
    by_cases hmi : m = i
    · subst hmi
      by_cases hw : l ∈ (Ls m).w
      · simp [hw]
      · rw [ih]; simp [hw]
    · rw [ih]
      by_cases hw : l ∈ (Ls m).w
      · by_cases hSm : S m = true
        · simp only [hSm, hw, Bool.true_or, true_and, and_self, if_true]
          split
          · rename_i hh
            obtain ⟨h1, h2⟩ := hh
            have hlt : i < m := by omega
            obtain ⟨a1, a2⟩ := hf.apart i m hlt (by omega) (fun ha => by rw [hS.up m i hSm ha] at hnot; cases hnot)
            exact absurd hw (a1 l h2).2
          · rfl
        · have e1 : ¬ ((S m || m == i) = true ∧ l ∈ (Ls m).w) := by simp [hSm, hmi]
          have e2 : ¬ (S m = true ∧ l ∈ (Ls m).w) := fun hh => hSm hh.1
          rw [if_neg e1, if_neg e2]
          by_cases hlt : i < m
          · simp [hlt, show i < m + 1 by omega]
          · simp [hlt, show ¬ i < m + 1 by omega]
      · simp only [hw, and_false, if_false]
        by_cases hlt : i < m
        · simp [hlt, show i < m + 1 by omega]
        · simp [hlt, show ¬ i < m + 1 by omega]
theorem cur_all (h : Line P E ops gs Ls) (hS : ∀ i, i < ops.size → S i = true) (l : Nat) : ∀ m, m ≤ ops.size → cur gs Ls S m l = gs m l
  | 0, _ => rfl
  | m + 1, hm => by
    unfold cur
    by_cases hw : l ∈ (Ls m).w
    · rw [if_pos ⟨hS m (by omega), hw⟩]
    · rw [if_neg (fun hh => hw hh.2), cur_all h hS l m (by omega), h.off (by omega) hw]
theorem cur_st (h : Line P E ops gs Ls) (hf : Fit ops Ls an) (hS : Cl ops.size an S) {i : Nat} (hnot : S i = false) (l : Nat) : ∀ m, m ≤ ops.size → i + 1 ∉ (cur gs Ls S m l).pst
  | 0, _ => by
    have := h.no l
    unfold cur
    exact fun hin => by have := this _ hin; omega
  | m + 1, hm => by
    have ih := cur_st h hf hS hnot l m (by omega)
    unfold cur
    split
    · rename_i hh
      obtain ⟨hSm, hw⟩ := hh
      intro hin
      have := (h.run m _ (Array.getElem?_eq_getElem (by omega))).stamps l hw _ hin
      rcases hf.st m (by omega) _ this with h1 | h1 | ⟨x, h1, h2⟩
      · omega
      · have : i = m := by omega
        subst this; rw [hSm] at hnot; cases hnot
      · have : i = x := by omega
        subst this
        rw [hS.up m i hSm h2] at hnot; cases hnot
    · exact ih
/-- How many are left. -/
def left (S : Nat → Bool) : Nat → Nat
  | 0 => 0
  | m + 1 => left S m + if S m then 0 else 1
theorem left_add {i : Nat} (hi : S i = false) : ∀ m, left S m = left (fun x => S x || x == i) m + if i < m then 1 else 0
  | 0 => rfl
  | m + 1 => by
    unfold left
    rw [left_add hi m]
    by_cases h : m = i
    · subst h; simp [hi]
    · have e : (m == i) = false := by simpa using h
      simp only [e, Bool.or_false]
      by_cases h2 : i < m
      · simp [h2, show i < m + 1 by omega]; omega
      · simp [h2, show ¬ i < m + 1 by omega]
theorem left_zero : ∀ m, left S m = 0 → ∀ i, i < m → S i = true
  | 0, _, i, hi => absurd hi (Nat.not_lt_zero i)
  | m + 1, h, i, hi => by
    unfold left at h
    cases hS : S m with
    | false => rw [hS] at h; simp at h
    | true =>
      rcases Nat.lt_or_eq_of_le (Nat.le_of_lt_succ hi) with hlt | heq
      · exact left_zero m (by omega) i hlt
      · rw [heq]; exact hS
theorem any_ops {Q : Exit → Act → World → Prop} (hE : E.tb.okB P = true) (hB : ops.toList.all (opB N ops) = true) (h : Line P E ops gs Ls) (hf : Fit ops Ls an) {a0 : Act} (hK : ∀ G a w, Rel W0 N G (gs ops.size) a w [] → Kpt ops an (fun i => decide (i < ops.size)) a0 a → Q .normal a w) : ∀ (fuel : Nat) (S : Nat → Bool) (listed : Array Bool) (G : Gh) (a : Act) (w : World), listed.size = ops.size → (∀ i, i < ops.size → listed.getD i true = S i) → left S ops.size = fuel → Cl ops.size an S → Rel W0 N G (cur gs Ls S ops.size) a w [] → Kpt ops an S a0 a → wpAny P .any ops Q fuel listed a w := by
  have done : ∀ (S : Nat → Bool) (listed : Array Bool) (G : Gh) (a : Act) (w : World), listed.size = ops.size → (∀ i, i < ops.size → listed.getD i true = S i) → Rel W0 N G (cur gs Ls S ops.size) a w [] → Kpt ops an S a0 a → Region.ready .any ops listed = [] → Q .normal a w := by
    intro S listed G a w hls hlist hr hst hrd
    have hall : ∀ i, i < ops.size → S i = true := by
      intro i
      induction i using Nat.strongRecOn with
      | _ i ih =>
        intro hi
        cases hSi : S i with
        | true => rfl
        | false =>
          have : i ∈ Region.ready .any ops listed := by
            rw [mem_ready]
            refine ⟨by rw [hlist i hi, hSi], ops[i], Array.getElem?_eq_getElem hi, fun e he hbe => ?_⟩
            have hon := hf.edge i _ e (Array.getElem?_eq_getElem hi) he hbe
            have h1 := ih e.on hon (by omega)
            have h2 := hlist e.on (by omega)
            rw [h1] at h2
            rw [Array.getD_eq_getD_getElem?, Array.getElem?_eq_getElem (by omega)] at h2 ⊢
            simpa using h2
          rw [hrd] at this
          cases this
    have e : cur gs Ls S ops.size = gs ops.size := funext fun l => cur_all h hall l ops.size (Nat.le_refl _)
    rw [e] at hr
    exact hK G a w hr ⟨hst.st, fun i o hi ho hg hs => hst.cp i o (hall i (by simpa using hi)) ho hg hs⟩
  intro fuel
  induction fuel with
  | zero =>
    intro S listed G a w hls hlist hc hS hr hst
    have hall := left_zero _ hc
    have hrd : Region.ready .any ops listed = [] := by
      refine List.eq_nil_iff_forall_not_mem.2 fun i hi => ?_
      rw [mem_ready] at hi
      obtain ⟨h1, o, ho, _⟩ := hi
      have hlt := (Array.getElem?_eq_some_iff.1 ho).1
      rw [hlist i hlt, hall i hlt] at h1
      cases h1
    exact ⟨hrd, done S listed G a w hls hlist hr hst hrd⟩
  | succ fuel ih =>
    intro S listed G a w hls hlist hc hS hr hst
    refine ⟨done S listed G a w hls hlist hr hst, fun i hi => ?_⟩
    rw [mem_ready] at hi
    obtain ⟨h1, o, ho, hed⟩ := hi
    have hlt := (Array.getElem?_eq_some_iff.1 ho).1
    have hSi : S i = false := by rw [← hlist i hlt]; exact h1
    have hanc : ∀ x, an i x → S x = true := by
      intro x hx
      obtain ⟨e, he, hb, h2⟩ := hf.anc i o x ho hx
      have hon := hf.edge i o e ho he hb
      have h3 := hed e he hb
      have h4 : S e.on = true := by
        rw [← hlist e.on (by omega)]
        rw [Array.getD_eq_getD_getElem?, Array.getElem?_eq_getElem (by omega)] at h3 ⊢
        simpa using h3
      rcases h2 with rfl | h2
      · exact h4
      · exact hS.up _ _ h4 h2
    have hrun := (h.run i o ho).here (cur gs Ls S ops.size) (fun l hl => (cur_eq h hf hS hlt hSi hanc (.inl hl) ops.size (Nat.le_refl _)).2 (by omega))
    refine opS_snd ho hE hr (fun l => cur_st h hf hS hSi l ops.size (Nat.le_refl _)) (opB_of hB ho) hrun (fun G' a' w' hr' hx => ?_)
    refine ih (fun x => S x || x == i) _ G' a' w' (by simpa using hls) (fun j hj => ?_) ?_ ⟨fun j x hj hx => ?_, fun j hj => ?_⟩ ?_ (hst.put ho hSi (fun j hj => by simp only [Bool.or_eq_true, beq_iff_eq] at hj; exact hj.symm) (fun j x hj hx => hS.up j x hj hx) (fun d hd => by rw [hr.hs]; exact opB_dst (opB_of hB ho) hd) hx)
    · by_cases e : j = i
      · subst e
        rw [Array.getD_eq_getD_getElem?]
        simp [hls, hj]
      · rw [getD_set_ne true (fun h => e h.symm), hlist j hj]
        simp [e]
    · have := left_add hSi ops.size
      rw [if_pos hlt] at this
      omega
    · simp only [Bool.or_eq_true, beq_iff_eq] at hj ⊢
      rcases hj with hj | hj
      · exact .inl (hS.up j x hj hx)
      · subst hj; exact .inl (hanc x hx)
    · simp only [Bool.or_eq_true, beq_iff_eq] at hj
      rcases hj with hj | hj
      · exact hS.lt j hj
      · omega
    · have e : (fun l => if l ∈ (Ls i).w then gs (i + 1) l else cur gs Ls S ops.size l) = cur gs Ls (fun x => S x || x == i) ops.size := by
        funext l
        rw [cur_add h hf hS hlt hSi hanc l ops.size (Nat.le_refl _)]
        simp [hlt]
      rw [← e]
      exact hr'
end
end Go.Proofs.Ytjihjjbieeofdaa.T
namespace Go.Proofs.Ytjihjjbieeofdaa.T
set_option linter.unusedSimpArgs false
set_option linter.unusedVariables false
open Go Go.RowKit
set_option linter.unusedVariables false
set_option linter.unusedSimpArgs false
theorem maskE_bit {acc : List Nat} {x : Nat} : ∀ {es : List Edge}, (maskE acc es).testBit x = true → ∃ e ∈ es, Region.binds .any e = true ∧ (x = e.on ∨ (acc.getD e.on 0).testBit x = true)
  | [], h => by simp [maskE] at h
  | e :: es, h => by
    unfold maskE at h
    split at h
    · rename_i hb
      rw [Nat.testBit_or, Nat.testBit_or, Bool.or_eq_true, Bool.or_eq_true] at h
      rcases h with (h | h) | h
      · exact ⟨e, List.mem_cons_self, hb, .inr h⟩
      · rw [Nat.testBit_two_pow] at h
        exact ⟨e, List.mem_cons_self, hb, .inl (by simpa using h : e.on = x).symm⟩
      · obtain ⟨e', h1, h2⟩ := maskE_bit h
        exact ⟨e', List.mem_cons_of_mem _ h1, h2⟩
    · obtain ⟨e', h1, h2⟩ := maskE_bit h
      exact ⟨e', List.mem_cons_of_mem _ h1, h2⟩
theorem masks_pre : ∀ (os : List Oper) (acc : List Nat), (masks os acc).take acc.length = acc
  | [], acc => by simp [masks]
  | o :: os, acc => by
    have := masks_pre os (acc ++ [maskE acc o.after.toList])
    unfold masks
    rw [List.length_append, List.length_singleton] at this
    have h2 := congrArg (List.take acc.length) this
    rw [List.take_take, show min acc.length (acc.length + 1) = acc.length by omega] at h2
    rw [h2]
    simp
theorem masks_get : ∀ (os : List Oper) (acc : List Nat) (j : Nat) (o : Oper), os[j]? = some o → (masks os acc).getD (acc.length + j) 0 = maskE ((masks os acc).take (acc.length + j)) o.after.toList
  | [], acc, j, o, h => by cases h
  | o' :: os, acc, j, o, h => by
    cases j with
    | zero =>
      simp only [List.getElem?_cons_zero, Option.some.injEq] at h
      subst h
      have h1 := masks_pre (o' :: os) acc
      rw [Nat.add_zero, h1]
      have h2 := masks_pre os (acc ++ [maskE acc o'.after.toList])
      unfold masks
      rw [List.length_append, List.length_singleton] at h2
      have h3 := congrArg (fun l => l[acc.length]?) h2
      simp only [List.getElem?_take] at h3
      rw [if_pos (by omega)] at h3
      simp at h3
      rw [List.getD_eq_getElem?_getD, h3]; rfl
    | succ j =>
      simp only [List.getElem?_cons_succ] at h
      have := masks_get os (acc ++ [maskE acc o'.after.toList]) j o h
      rw [List.length_append, List.length_singleton] at this
      unfold masks
      rw [show acc.length + (j + 1) = acc.length + 1 + j by omega]
      exact this
theorem clash_not {A B : Lg} (h : clash A B = false) : (∀ l ∈ A.w, l ∉ B.r ∧ l ∉ B.w) ∧ ∀ l ∈ A.r, l ∉ B.w := by
  unfold clash at h
  rw [Bool.or_eq_false_iff, List.any_eq_false, List.any_eq_false] at h
  refine ⟨fun l hl => ?_, fun l hl => ?_⟩
  · have := h.1 l hl
    simp only [Bool.or_eq_true, not_or, List.contains_iff_mem] at this
    exact this
  · have := h.2 l hl
    simpa using this
section
variable {P : Program} {W0 : Bs} {N : Nat} {G G' : Gh} {g g' : Nat → AV} {a a' : Act} {w w' : World} {E : Env} {ops : Array Oper}
theorem fit_of {Ly Lx : Nat → Lg} (hsame : ∀ j, j < ops.size → (Ly j).same (Lx j)) (h1 : okE ops.toList = true) (h2 : okL (masks ops.toList []) ((List.range ops.size).map Ly) = true) : Fit ops Lx (fun j x => ((masks ops.toList []).getD j 0).testBit x = true) := by
  have hedge : ∀ (i : Nat) (o : Oper) (e : Edge), ops[i]? = some o → e ∈ o.after → Region.binds .any e = true → e.on < i := by
    intro i o e ho he hbe
    unfold okE at h1
    have hlt := (Array.getElem?_eq_some_iff.1 ho).1
    have := List.all_eq_true.1 h1 i (by simpa using hlt)
    rw [Array.getElem?_toList, ho] at this
    dsimp only at this
    have := List.all_eq_true.1 this e (by simpa using he)
    simpa [hbe] using this
  have hget : ∀ j, j < ops.size → ((List.range ops.size).map Ly).getD j e0 = Ly j := by
    intro j hj
    rw [List.getD_eq_getElem?_getD, List.getElem?_map, List.getElem?_range hj]; rfl
  unfold okL at h2
  rw [List.length_map, List.length_range] at h2
  have h2 : ∀ j, j < ops.size → (∀ i, i < j → ((masks ops.toList []).getD j 0).testBit i = true ∨ clash (Ly i) (Ly j) = false) ∧ ∀ s ∈ (Ly j).s, s = 0 ∨ s = j + 1 ∨ ((masks ops.toList []).getD j 0).testBit (s - 1) = true := by
    intro j hj
    have h3 := List.all_eq_true.1 h2 j (by simpa using hj)
    rw [Bool.and_eq_true, List.all_eq_true, List.all_eq_true] at h3
    refine ⟨fun i hi => ?_, fun s hs => ?_⟩
    · have h4 := h3.1 i (by simpa using hi)
      rw [hget i (by omega), hget j hj, Bool.or_eq_true, Bool.not_eq_true'] at h4
      exact h4
    · have h4 := h3.2 s (by rw [hget j hj]; exact hs)
      simp only [Bool.or_eq_true, beq_iff_eq] at h4
      rcases h4 with (h4 | h4) | h4
      · exact .inl h4
      · exact .inr (.inl h4)
      · exact .inr (.inr h4)
  refine ⟨hedge, fun i o x ho hx => ?_, fun i j hij hj hn => ?_, fun j hj s hs => ?_⟩
  · have hm := masks_get ops.toList [] i o (by rw [Array.getElem?_toList]; exact ho)
    rw [List.length_nil, Nat.zero_add] at hm
    rw [hm] at hx
    obtain ⟨e, he, hb, h3⟩ := maskE_bit hx
    refine ⟨e, by simpa using he, hb, h3.imp id (fun h3 => ?_)⟩
    have hon := hedge i o e ho (by simpa using he) hb
    rw [List.getD_eq_getElem?_getD, List.getElem?_take, if_pos hon, ← List.getD_eq_getElem?_getD] at h3
    exact h3
  · obtain ⟨a1, _⟩ := h2 j hj
    have h3 := (a1 i hij).resolve_left hn
    obtain ⟨b1, b2⟩ := clash_not h3
    obtain ⟨si1, si2, _⟩ := hsame i (by omega)
    obtain ⟨sj1, sj2, _⟩ := hsame j hj
    refine ⟨fun l hl => ?_, fun l hl => ?_⟩
    · obtain ⟨c1, c2⟩ := b1 l ((si2 l).2 hl)
      exact ⟨fun h => c1 ((sj1 l).2 h), fun h => c2 ((sj2 l).2 h)⟩
    · exact fun h => b2 l ((si1 l).2 hl) ((sj2 l).2 h)
  · obtain ⟨_, a2⟩ := h2 j hj
    rcases a2 s (((hsame j hj).2.2 s).2 hs) with h3 | h3 | h3
    · exact .inl h3
    · exact .inr (.inl h3)
    · rcases Nat.eq_zero_or_pos s with h4 | h4
      · exact .inl h4
      · exact .inr (.inr ⟨s - 1, by omega, h3⟩)
theorem map_id_range (n : Nat) : (List.range n).map (fun x => 0 + x) = List.range n := by simp
/-- Ahead of it: by the text and by the edges. -/
def anB (ops : Array Oper) (i x : Nat) : Prop := x < i ∧ ((masks ops.toList []).getD i 0).testBit x = true
/-- A region. -/
theorem region_wp {id : Nat} {draw : Bool} {Q : Exit → Act → World → Prop} {st : St} {Post : St → Prop} (hm : P.follows .mixedOrders = true) (hE : E.tb.okB P = true) (h : Rel W0 N G st.get a w []) (hp : NoPl st.get) (hev : opsE (Impl P) E ops 0 ops.toList st [] (fun g Ls => regB draw N ops Ls.reverse = true ∧ Post g)) (hK : ∀ g G a' w, Post g → Rel W0 N G g.get a' w [] → Kpt ops (anB ops) (fun i => decide (i < ops.size)) a a' → Q .normal a' w) : (Code.region id ops draw).wp P Q a w := by
  obtain ⟨gs, Lx, Ly, g', q1, q2, q3, q4, q5, q6⟩ := opsE_runs _ _ _ _ _ hev
  rw [Array.length_toList] at q2 q4 q5
  rw [List.append_nil, List.reverse_reverse] at q5
  unfold regB at q5
  rw [Bool.and_eq_true] at q5
  obtain ⟨hB, hC⟩ := q5
  have hline : Line P E ops gs Lx := ⟨fun j o ho => by
    have := q3 j o (by rw [Array.getElem?_toList]; exact ho)
    rwa [Nat.zero_add] at this, by rw [q1]; exact hp⟩
  have hfin : ∀ G a' w, Rel W0 N G (gs ops.size) a' w [] → Kpt ops (anB ops) (fun i => decide (i < ops.size)) a a' → Q .normal a' w := fun G a' w hr hst => by
    rw [q2] at hr
    exact hK g' G a' w q6 hr hst
  cases draw with
  | false =>
    simp only [Bool.false_eq_true, if_false] at hC
    refine wp_region ?_
    have := text_ops (Q := Q) hE hB hline (fun j hj s hs => ?_) (fun i x h => h.1) hfin ops.size 0 G a w (by omega) (by rw [q1]; exact h) ⟨fun _ _ => rfl, fun i o hi => by simp at hi⟩ (fun l s hl => by rw [q1] at hl; have := hp l s hl; omega)
    · rwa [map_id_range] at this
    · unfold okT at hC
      rw [List.length_map, List.length_range] at hC
      have h3 := List.all_eq_true.1 hC j (by simpa using hj)
      have h4 := List.all_eq_true.1 h3 s (by
        rw [List.getD_eq_getElem?_getD, List.getElem?_map, List.getElem?_range hj]
        exact ((q4 j hj).2.2 s).2 hs)
      simpa using h4
  | true =>
    simp only [if_true, Bool.and_eq_true] at hC
    obtain ⟨hC1, hC2⟩ := hC
    have hfit := fit_of q4 hC1 hC2
    refine wp_region_any hm ?_
    have e : cur gs Lx (fun _ => false) ops.size = gs 0 := by
      have : ∀ m, cur gs Lx (fun _ => false) m = gs 0 := by
        intro m
        induction m with
        | zero => rfl
        | succ m ih => funext l; unfold cur; rw [if_neg (by simp), ih]
      exact this _
    refine any_ops hE hB hline hfit (fun G a' w hr hk => hfin G a' w hr ⟨hk.st, fun i o hi ho hg hs => hk.cp i o hi ho hg fun o' ho' d hd => ⟨(hs o' ho' d hd).1, fun t ht => ⟨((hs o' ho' d hd).2 t ht).1, fun k ok hk2 hd2 => (((hs o' ho' d hd).2 t ht).2 k ok hk2 hd2).2⟩⟩⟩) ops.size (fun _ => false) _ G a _ (by simp) (fun i hi => by rw [Array.getD_eq_getD_getElem?]; simp [hi]) ?_ ⟨fun i x hx => (by cases hx), fun i hi => (by cases hi)⟩ ?_ (Kpt.first _ _ _)
    · have : ∀ m, left (fun _ => false) m = m := by
        intro m
        induction m with
        | zero => rfl
        | succ m ih => unfold left; rw [ih]; simp
      exact this _
    · rw [e, q1]
      exact h.world (Below.refl _ _).drew (fun _ _ _ => rfl)
end
end Go.Proofs.Ytjihjjbieeofdaa.T
namespace Go.Proofs.Ytjihjjbieeofdaa.T
set_option linter.unusedSimpArgs false
set_option linter.unusedVariables false
open Go Go.RowKit
set_option linter.unusedVariables false
set_option linter.unusedSimpArgs false
theorem flat_sub {n : Nat} {f f' : Nat → List Nat} (h : ∀ j, j < n → (f' j).Sublist (f j)) : ((List.range n).flatMap f').Sublist ((List.range n).flatMap f) := by
  induction n with
  | zero => simp
  | succ n ih =>
    rw [List.range_succ, List.flatMap_append, List.flatMap_append]
    refine List.Sublist.append (ih (fun j hj => h j (by omega))) ?_
    simpa using h n (by omega)
/-- v' tells no more than v. -/
structure Le (v v' : AV) : Prop where
  pl : v'.pst = []
  rv : ∀ {G : Gh} {g : Nat → AV} {a : Act} {w : World} {x : Value} {ts : List Nat}, RV G g a w v x ts → ∃ ts', ts'.Sublist ts ∧ RV G g a w v' x ts'
  rb : ∀ {w : World} {F : Nat → Prop} {y : Value} {ts : List Nat}, RB w F v y ts → ∃ ts', ts'.Sublist ts ∧ RB w F v' y ts'
  pt : ∀ n, n ∈ v'.pbx → n ∈ v.pbx
  an : v = .any → v' = .any
  fl : ∀ k n, v' = .i k n → v = .i k n
theorem Le.any (v : AV) : Le v .any := ⟨rfl, fun _ => ⟨[], List.nil_sublist _, rfl⟩, fun h => by
  obtain ⟨u, e, h1⟩ := h.rp.one h.na
  cases e
  exact ⟨[], List.nil_sublist _, .any h1, fun l' e => (by cases e)⟩, fun n e => (by cases e), fun _ => rfl, fun k n e => (by cases e)⟩
theorem no_path {v : AV} {ix : List Nat} {c : AV} {rb : AV → AV} (h : Path v ix [] c rb) : False := by cases h
/-- Another name of a slot's slice stays. -/
def LeP (g g' : Nat → AV) (l : Nat) : Prop := ∃ r s nl sz dp c, r < 1000 ∧ g l = .pv r [] [s] ∧ g r = .sl (some s) nl sz dp c ∧ g' l = .pv r [] [0]
theorem Rel.weak {W0 : Bs} {N : Nat} {G : Gh} {g g' : Nat → AV} {a : Act} {w : World} (h : Rel W0 N G g a w []) (hle : ∀ l, Le (g l) (g' l) ∨ LeP g g' l) (hpt : ∀ l n, n ∈ (g' l).pbx → g' (loc n 999) ≠ .any) : ∃ G', Rel W0 N G' g' a w [] := by
  have hch : ∀ l, ∃ t, t.Sublist (G.tk l) ∧ (l < N → Le (g l) (g' l) → RV G g a w (g' l) (a.tmps.getD l undef) t) ∧ ∀ n b z c y, l = loc n c → G.bx n = some (b, z) → c < z → w.cell? ⟨b, c, none⟩ = some y → RB w G.F (g' l) y t := by
    intro l
    by_cases hl : l < N
    · by_cases hll : Le (g l) (g' l)
      · obtain ⟨t, h1, h2⟩ := hll.rv (h.sl l hl)
        exact ⟨t, h1, fun _ _ => h2, fun n b z c y e => by have := loc_ge n c; have := h.hN; omega⟩
      · exact ⟨[], List.nil_sublist _, fun _ hh => absurd hh hll, fun n b z c y e => by have := loc_ge n c; have := h.hN; omega⟩
    · by_cases hc : ∃ n b z c y, l = loc n c ∧ G.bx n = some (b, z) ∧ c < z ∧ w.cell? ⟨b, c, none⟩ = some y
      · obtain ⟨n, b, z, c, y, rfl, hb, hcz, hy⟩ := hc
        obtain ⟨x1, x2, x3, x4, arr, ty, x5, x6, x7⟩ := h.bx n b z hb
        rw [cell_of_block x5] at hy
        have hx7 := x7 c y hcz hy
        have hll : Le (g (loc n c)) (g' (loc n c)) := by
          rcases hle (loc n c) with hh | ⟨r, s, nl, sz, dp, c2, _, e, _⟩
          · exact hh
          · rw [e] at hx7
            cases hx7.rp
        obtain ⟨t, h1, h2⟩ := hll.rb hx7
        refine ⟨t, h1, fun hl' _ => absurd hl' hl, fun n' b' z' c' y' e hb' hc' hy' => ?_⟩
        have hz' := (h.bx n' b' z' hb').1
        obtain ⟨e1, e2⟩ := loc_inj (by omega) (by omega) e
        subst e1; subst e2
        rw [hb] at hb'
        cases hb'
        rw [cell_of_block x5, hy] at hy'
        cases hy'
        exact h2
      · exact ⟨[], List.nil_sublist _, fun hl' _ => absurd hl' hl, fun n b z c y e hb hcz hy => absurd ⟨n, b, z, c, y, e, hb, hcz, hy⟩ hc⟩
  obtain ⟨tk', htk⟩ := Classical.axiomOfChoice hch
  have hdec : ∃ bx' : Nat → Option (Nat × Nat), ∀ n, (g' (loc n 999) = .any → bx' n = none) ∧ (g' (loc n 999) ≠ .any → bx' n = G.bx n) := by
    have : ∀ n, ∃ o : Option (Nat × Nat), (g' (loc n 999) = .any → o = none) ∧ (g' (loc n 999) ≠ .any → o = G.bx n) := by
      intro n
      by_cases e : g' (loc n 999) = .any
      · exact ⟨none, fun _ => rfl, fun hn => absurd e hn⟩
      · exact ⟨G.bx n, fun hn => absurd hn e, fun _ => rfl⟩
    obtain ⟨f, hf⟩ := Classical.axiomOfChoice this
    exact ⟨f, hf⟩
  obtain ⟨bx', hbx⟩ := hdec
  have hsome : ∀ n b z, bx' n = some (b, z) → G.bx n = some (b, z) := by
    intro n b z e
    by_cases hn : g' (loc n 999) = .any
    · rw [(hbx n).1 hn] at e; cases e
    · rw [← (hbx n).2 hn]; exact e
  have han : ∀ l, g l = .any → g' l = .any := fun l e => by
    rcases hle l with hh | ⟨r, s, nl, sz, dp, c2, _, e2, _⟩
    · exact hh.an e
    · rw [e] at e2; cases e2
  have hfl : ∀ l k n, g' l = .i k n → g l = .i k n := fun l k n e => by
    rcases hle l with hh | ⟨r, s, nl, sz, dp, c2, _, _, _, e2⟩
    · exact hh.fl k n e
    · rw [e] at e2; cases e2
  have hsub : ∀ l b, b ∈ tk' l → b ∈ G.tk l := fun l b hb => (htk l).1.subset hb
  refine ⟨⟨G.F, bx', tk'⟩, ⟨h.hN, h.hs, h.hd, h.fr, fun t ht => ?_, fun t h1 h2 => han t (h.sz t h1 h2), fun n b z hb => ?_, fun n hn => (hbx n).1 hn, fun n b z hb z' hz' => h.bs n b z (hsome n b z hb) z' (hfl _ _ _ hz'), fun n m b z z' h1 h2 => h.bi n m b z z' (hsome _ _ _ h1) (hsome _ _ _ h2), fun l b hb => ?_, fun l => (htk l).1.nodup (h.tn l), fun l l' b h1 h2 => h.td l l' b (hsub l b h1) (hsub l' b h2), h.F, h.f0, fun b hb => (by cases hb), List.nodup_nil, fun b hb z hz => by
    obtain ⟨z', h1⟩ := h.p0 b hb z (hfl _ _ _ hz)
    exact ⟨z', ((hbx 2000).2 (by rw [hz]; exact fun h => by cases h)).trans h1⟩⟩⟩
  · rcases hle t with hll | ⟨r, s, nl, sz, dp, c2, hr, e1, e2, e3⟩
    · refine ((htk t).2.1 ht hll).mono (fun _ hf => hf) (fun _ _ => rfl) (fun _ _ => rfl) (fun n e => (hbx n).2 (hpt t n e)) (fun r ix ss hss s nl sz dp l rb hp => ?_)
      rw [hll.pl] at hss
      have : ss = [] := List.eq_nil_iff_forall_not_mem.2 fun x hx => by cases hss x hx
      subst this
      exact (no_path hp).elim
    · have hs := h.sl t ht
      rw [e1] at hs
      obtain ⟨q1, q2, q3⟩ := hs
      have hq := q3 s nl sz dp c2 (fun x => x) (by rw [e2]; exact .nil)
      have h0 : tk' t = [] := List.eq_nil_iff_forall_not_mem.2 fun b hb => by have := hsub t b hb; rw [q1] at this; cases this
      rw [e3]
      refine ⟨h0, q2, fun s' nl' sz' dp' l' rb' hp' => ?_⟩
      unfold pval at hq ⊢
      rw [base_slot hr] at hq ⊢
      exact hq
  · obtain ⟨x1, x2, x3, x4, arr, ty, x5, x6, x7⟩ := h.bx n b z (hsome n b z hb)
    refine ⟨x1, x2, x3, x4, arr, ty, x5, x6, fun c y hc hy => ?_⟩
    exact (htk (loc n c)).2.2 n b z c y rfl (hsome n b z hb) hc (by rw [cell_of_block x5]; exact hy)
  · obtain ⟨x1, x2, x3, x4⟩ := h.tk l b (hsub l b hb)
    exact ⟨x1, x2, x3, fun n z hn => x4 n z (hsome n b z hn)⟩
end Go.Proofs.Ytjihjjbieeofdaa.T
namespace Go.Proofs.Ytjihjjbieeofdaa.T
set_option linter.unusedSimpArgs false
set_option linter.unusedVariables false
open Go Go.RowKit
set_option linter.unusedVariables false
set_option linter.unusedSimpArgs false
/-! ### less is known -/
def AV.le1 : AV → AV → Prop
  | _, .any => True
  | .b x, .b y => x = y
  | .i k n, .i k' m => k = k' ∧ n = m
  | .s x, .s y => x = y
  | .sl o nl sz dp l, .sl o' nl' sz' dp' l' => o.isSome = o'.isSome ∧ (nl' = none ∨ nl = nl') ∧ ((sz = sz' ∧ dp = dp' ∧ l = l') ∨ (nl = some true ∧ l' = []))
  | .fa l, .fa l' => l = l'
  | _, _ => False
def le1L : List AV → List AV → Prop
  | [], [] => True
  | v :: l, v' :: l' => v.le1 v' ∧ le1L l l'
  | _, _ => False
def AV.le2 : AV → AV → Prop
  | .agg l, .agg l' => le1L l l'
  | v, v' => v.le1 v'
def le2L : List AV → List AV → Prop
  | [], [] => True
  | v :: l, v' :: l' => v.le2 v' ∧ le2L l l'
  | _, _ => False
def AV.le : AV → AV → Prop
  | .tup l, .tup l' => le2L l l'
  | .ptr n o, .ptr n' o' => n = n' ∧ o = o'
  | .psl l, .psl l' => l = l'
  | v, v' => v.le2 v'
theorem rp_nl {w : World} {F : Nat → Prop} {o o' : Option Nat} {nl nl' : Option Bool} {sz : Nat} {dp : Bool} {l : List AV} {cs : List Value} {ts : List Nat} (h : Rp w F (.sl o nl sz dp l) cs ts) (ho : o.isSome = o'.isSome) (hn : nl' = none ∨ nl = nl') : Rp w F (.sl o' nl' sz dp l) cs ts := by
  have key : ∀ {Q : Option Bool → Prop}, Q none → Q nl → Q nl' := fun h1 h2 => by rcases hn with rfl | rfl <;> assumption
  cases h with
  | fz hc hm hn1 h0 hA hl hr hd hw =>
    cases o' with
    | none => exact .fz hc hm (fun x hx => by rcases hn with rfl | rfl; cases hx; exact hn1 x hx) h0 hA hl hr hd hw
    | some s => cases ho
  | own0 hn1 =>
    cases o' with
    | none => cases ho
    | some s => exact .own0 (by rcases hn with rfl | rfl; decide; exact hn1)
  | own1 hn1 =>
    cases o' with
    | none => cases ho
    | some s => exact .own1 (by rcases hn with rfl | rfl; decide; exact hn1)
  | own hn1 hh hc hm hs hl hr hw hd =>
    cases o' with
    | none => cases ho
    | some s => exact .own (by rcases hn with rfl | rfl; decide; exact hn1) hh hc hm hs hl hr hw hd
theorem le1_rp {v v' : AV} (h : v.le1 v') {w : World} {F : Nat → Prop} {y : Value} {ts : List Nat} (hr : Rp w F v [y] ts) (hna : ∀ l, v ≠ .agg l) : ∃ ts', ts'.Sublist ts ∧ Rp w F v' [y] ts' := by
  by_cases hv : v' = .any
  · subst hv
    obtain ⟨u, e, h1⟩ := hr.one hna
    cases e
    exact ⟨[], List.nil_sublist _, .any h1⟩
  · refine ⟨ts, List.Sublist.refl _, ?_⟩
    cases v <;> cases v' <;> simp only [AV.le1] at h <;> first | exact absurd rfl hv | (exact h.elim) | skip
    · subst h; exact hr
    · obtain ⟨rfl, rfl⟩ := h; exact hr
    · subst h; exact hr
    · rename_i o nl sz dp l o' nl' sz' dp' l'
      obtain ⟨h0, h1, ⟨rfl, rfl, rfl⟩ | ⟨rfl, rfl⟩⟩ := h
      · exact rp_nl hr h0 h1
      · have hn' : nl' ≠ some false := by rcases h1 with rfl | rfl <;> decide
        cases hr with
        | fz hc hm hn1 h2 hA hl hr hd hw =>
          obtain ⟨h3, h4⟩ := h2 ((hn1 true rfl).1 rfl)
          have h5 := (hn1 true rfl).1 rfl
          subst h3; subst h4; subst h5
          cases o' with
          | none => exact .fz (cs := fun _ => []) (b := 0) (off := 0) (Nat.le_refl _) (by unfold maxLen; omega) (fun x hx => by rcases h1 with rfl | rfl <;> cases hx; exact ⟨fun _ => rfl, fun _ => rfl⟩) (fun _ => ⟨rfl, rfl⟩) (fun h => absurd rfl h) (fun j hj => absurd hj (Nat.not_lt_zero _)) (fun j e he => by cases he) (fun _ e he => by cases he) (fun j q u hj => absurd hj (Nat.not_lt_zero _))
          | some s => cases h0
        | own0 hn1 =>
          cases o' with
          | none => cases h0
          | some s => exact .own0 hn'
        | own1 hn1 => exact absurd rfl hn1
        | own hn1 => exact absurd rfl hn1
    · subst h; exact hr
theorem le1_na {v v' : AV} (h : v.le1 v') : (∀ l, v' ≠ .agg l) ∧ (∀ l, v' ≠ .tup l) ∧ v'.pbx = [] ∧ v'.pst = [] ∧ (v = .any → v' = .any) ∧ (∀ k n, v' = .i k n → v = .i k n) ∧ (v' ≠ .any → (∀ l, v ≠ .agg l) ∧ (∀ l, v ≠ .tup l) ∧ (∀ n o, v ≠ .ptr n o) ∧ (∀ r ix ss, v ≠ .pv r ix ss) ∧ (∀ r ix ss d u, v ≠ .ea r ix ss d u) ∧ (∀ l, v ≠ .psl l) ∧ ∀ n o, v ≠ .pfa n o) := by
  cases v <;> cases v' <;> simp only [AV.le1] at h <;> first | (exact h.elim) | skip
  all_goals first
    | (subst h; simp [AV.pst, AV.pst1, AV.pbx]; done)
    | (obtain ⟨rfl, rfl⟩ := h; simp [AV.pst, AV.pst1, AV.pbx]; done)
    | (simp [AV.pst, AV.pst1, AV.pbx]; done)
theorem le1L_get : ∀ {l l' : List AV}, le1L l l' → l.length = l'.length ∧ ∀ (j : Nat) (e' : AV), l'[j]? = some e' → ∃ e, l[j]? = some e ∧ e.le1 e'
  | [], [], _ => ⟨rfl, fun j e' h => by cases h⟩
  | v :: l, v' :: l', h => by
    obtain ⟨h1, h2⟩ := h
    obtain ⟨h3, h4⟩ := le1L_get h2
    refine ⟨by simp [h3], fun j e' he => ?_⟩
    cases j with
    | zero => simp only [List.getElem?_cons_zero, Option.some.injEq] at he; subst he; exact ⟨v, rfl, h1⟩
    | succ j => simp only [List.getElem?_cons_succ] at he ⊢; exact h4 j e' he
  | [], _ :: _, h => h.elim
  | _ :: _, [], h => h.elim
theorem le1L_pst {l l' : List AV} (h : le1L l l') : (AV.agg l').pst = [] := by
  refine List.eq_nil_iff_forall_not_mem.2 fun x hx => ?_
  obtain ⟨e', he', hx⟩ := List.mem_flatMap.1 hx
  obtain ⟨j, hj⟩ := List.mem_iff_getElem?.1 he'
  obtain ⟨e, _, h2⟩ := (le1L_get h).2 j e' hj
  have := (le1_na h2).2.2.2.1
  cases e' with
  | agg l => exact absurd rfl ((le1_na h2).1 l)
  | pv => simp only [AV.pst] at this; rw [this] at hx; cases hx
  | ea => simp only [AV.pst] at this; rw [this] at hx; cases hx
  | _ => cases hx
theorem choose_list {α : Type} {n : Nat} {p : Nat → α → Prop} [Inhabited α] (h : ∀ j, j < n → ∃ x, p j x) : ∃ f : Nat → α, ∀ j, j < n → p j (f j) := by
  have : ∀ j, ∃ x, j < n → p j x := fun j => by
    by_cases hj : j < n
    · obtain ⟨x, hx⟩ := h j hj; exact ⟨x, fun _ => hx⟩
    · exact ⟨default, fun h => absurd h hj⟩
  exact Classical.axiomOfChoice this
theorem le1_rc {v v' : AV} (h : v.le1 v') {G : Gh} {g : Nat → AV} {a : Act} {w : World} {y : Value} {ts : List Nat} (hr : RC G g a w v y ts) : ∃ ts', ts'.Sublist ts ∧ RC G g a w v' y ts' := by
  have hone : y.oneCell' = true := by
    cases v with
    | pv r ix ss => exact hr.2.1
    | agg l => exact hr.elim
    | _ => obtain ⟨u, e, h1⟩ := Rp.one hr (fun l e => by cases e); cases e; exact h1
  by_cases hv : v' = .any
  · subst hv
    exact ⟨[], List.nil_sublist _, .any hone⟩
  · obtain ⟨q1, q2, q3, q4, q5, q6, q7⟩ := (le1_na h).2.2.2.2.2.2 hv
    have hRp : Rp w G.F v [y] ts := by cases v <;> first | exact hr | exact hr.elim | exact absurd rfl (q4 _ _ _)
    obtain ⟨ts', h1, h2⟩ := le1_rp h hRp q1
    refine ⟨ts', h1, ?_⟩
    obtain ⟨p1, p2, p3, _⟩ := le1_na h
    cases v' <;> first | exact h2 | exact absurd rfl (p1 _) | (cases h2; done)
theorem le2_rw {v v' : AV} (h : v.le2 v') {w : World} {F : Nat → Prop} {y : Value} {ts : List Nat} (hr : RW w F v y ts) : ∃ ts', ts'.Sublist ts ∧ RW w F v' y ts' := by
  by_cases hag : ∃ l, v = .agg l
  · obtain ⟨l, rfl⟩ := hag
    by_cases hv : v' = .any
    · subst hv; exact ⟨[], List.nil_sublist _, rfl⟩
    · cases v' with
      | agg l' =>
        have h : le1L l l' := h
        obtain ⟨arr, e, h1⟩ := hr
        obtain ⟨tf, a1, a2, a3, a4⟩ := rp_agg h1
        obtain ⟨b1, b2⟩ := le1L_get h
        have : ∀ j, j < l'.length → ∃ t : List Nat, t.Sublist (tf j) ∧ ∀ e' u, l'[j]? = some e' → arr.toList[j]? = some u → Rp w F e' [u] t := by
          intro j hj
          obtain ⟨e0, he0, hle⟩ := b2 j _ (List.getElem?_eq_getElem hj)
          have hu : arr.toList[j]? = some (arr.toList[j]'(by omega)) := List.getElem?_eq_getElem (by omega)
          obtain ⟨t, t1, t2⟩ := le1_rp hle (a3 j e0 _ he0 hu) (a2 j e0 he0)
          refine ⟨t, t1, fun e' u he' hu' => ?_⟩
          rw [List.getElem?_eq_getElem hj] at he'; cases he'
          rw [hu] at hu'; cases hu'
          exact t2
        obtain ⟨tf', htf⟩ := choose_list this
        refine ⟨(List.range l'.length).flatMap tf', ?_, arr, e, .agg (by omega) (fun j e' he' => ?_) (fun j e' u he' hu => (htf j (lt_of_get he')).2 e' u he' hu)⟩
        · rw [a4, b1]; exact flat_sub fun j hj => (htf j hj).1
        · obtain ⟨e0, _, hle⟩ := b2 j e' he'; exact (le1_na hle).1
      | any => exact absurd rfl hv
      | _ => exact h.elim
  · have hna : ∀ l, v ≠ .agg l := fun l e => hag ⟨l, e⟩
    have h' : v.le1 v' := by cases v <;> first | exact h | exact absurd rfl (hna _)
    by_cases hv : v' = .any
    · subst hv; exact ⟨[], List.nil_sublist _, rfl⟩
    · obtain ⟨q1, q2, q3, q4, q5⟩ := (le1_na h').2.2.2.2.2.2 hv
      have hva : v ≠ .any := fun e => hv ((le1_na h').2.2.2.2.1 e)
      have hRp : Rp w F v [y] ts := by cases v <;> first | exact hr | exact absurd rfl (q1 _) | exact absurd rfl hva
      obtain ⟨ts', h1, h2⟩ := le1_rp h' hRp q1
      refine ⟨ts', h1, ?_⟩
      obtain ⟨p1, p2, p3, _⟩ := le1_na h'
      cases v' <;> first | exact h2 | exact absurd rfl (p1 _) | exact absurd rfl hv
theorem le2L_get : ∀ {l l' : List AV}, le2L l l' → l.length = l'.length ∧ ∀ (j : Nat) (e' : AV), l'[j]? = some e' → ∃ e, l[j]? = some e ∧ e.le2 e'
  | [], [], _ => ⟨rfl, fun j e' h => by cases h⟩
  | v :: l, v' :: l', h => by
    obtain ⟨h1, h2⟩ := h
    obtain ⟨h3, h4⟩ := le2L_get h2
    refine ⟨by simp [h3], fun j e' he => ?_⟩
    cases j with
    | zero => simp only [List.getElem?_cons_zero, Option.some.injEq] at he; subst he; exact ⟨v, rfl, h1⟩
    | succ j => simp only [List.getElem?_cons_succ] at he ⊢; exact h4 j e' he
  | [], _ :: _, h => h.elim
  | _ :: _, [], h => h.elim
theorem le_flat {v v' : AV} (h' : v.le1 v') (hv : v' ≠ .any) : Le v v' := by
  obtain ⟨p1, p2, p3, p4, p5, p6, p7⟩ := le1_na h'
  obtain ⟨q1, q2, q3, q4, q5, q6, q7⟩ := p7 hv
  refine ⟨p4, fun hr => ?_, fun hr => ?_, fun n e => (by rw [p3] at e; cases e), p5, p6⟩
  · rename_i G g a w x ts
    have hRp : Rp w G.F v [x] ts := by
      cases v <;> first | exact hr | exact absurd (p5 rfl) hv | exact absurd rfl (q1 _) | exact absurd rfl (q2 _) | exact absurd rfl (q3 _ _) | exact absurd rfl (q4 _ _ _) | exact absurd rfl (q5 _ _ _ _ _) | exact absurd rfl (q6 _) | exact absurd rfl (q7 _ _)
    obtain ⟨ts', h1, h2⟩ := le1_rp h' hRp q1
    refine ⟨ts', h1, ?_⟩
    cases v' <;> first | exact h2 | exact absurd rfl hv | exact absurd rfl (p1 _) | (cases h2; done)
  · obtain ⟨ts', h1, h2⟩ := le1_rp h' hr.rp hr.na
    exact ⟨ts', h1, h2, p1⟩
theorem le_of {v v' : AV} (h : v.le v') : Le v v' := by
  by_cases hv : v' = .any
  · subst hv; exact Le.any v
  cases v with
  | tup l =>
    cases v' with
    | tup l' =>
      have h : le2L l l' := h
      refine ⟨rfl, fun hr => ?_, fun hr => (by cases hr.rp), fun n e => (by cases e), fun e => (by cases e), fun k n e => (by cases e)⟩
      rename_i G g a w x ts
      obtain ⟨vs, e, hs, tf, htf, hc⟩ := hr
      obtain ⟨b1, b2⟩ := le2L_get h
      have : ∀ j, j < l'.length → ∃ t : List Nat, t.Sublist (tf j) ∧ ∀ e' u, l'[j]? = some e' → vs[j]? = some u → RW w G.F e' u t := by
        intro j hj
        obtain ⟨e0, he0, hle⟩ := b2 j _ (List.getElem?_eq_getElem hj)
        have hu : vs[j]? = some (vs[j]'(by omega)) := Array.getElem?_eq_getElem (by omega)
        obtain ⟨t, t1, t2⟩ := le2_rw hle (hc j e0 _ he0 hu)
        refine ⟨t, t1, fun e' u he' hu' => ?_⟩
        rw [List.getElem?_eq_getElem hj] at he'; cases he'
        rw [hu] at hu'; cases hu'
        exact t2
      obtain ⟨tf', htf'⟩ := choose_list this
      refine ⟨(List.range l'.length).flatMap tf', ?_, vs, e, by omega, tf', rfl, fun j e' y he' hy => (htf' j (lt_of_get he')).2 e' y he' hy⟩
      rw [htf, b1]; exact flat_sub fun j hj => (htf' j hj).1
    | any => exact absurd rfl hv
    | _ => exact h.elim
  | ptr n o =>
    cases v' with
    | ptr n' o' =>
      obtain ⟨rfl, rfl⟩ := h
      exact ⟨rfl, fun hr => ⟨_, List.Sublist.refl _, hr⟩, fun hr => ⟨_, List.Sublist.refl _, hr⟩, fun n e => e, fun e => (by cases e), fun k n e => (by cases e)⟩
    | any => exact absurd rfl hv
    | _ => exact h.elim
  | psl l =>
    cases v' with
    | psl l' =>
      have h : l = l' := h
      subst h
      exact ⟨rfl, fun hr => ⟨_, List.Sublist.refl _, hr⟩, fun hr => ⟨_, List.Sublist.refl _, hr⟩, fun n e => e, fun e => (by cases e), fun k n e => (by cases e)⟩
    | any => exact absurd rfl hv
    | _ => exact h.elim
  | agg l =>
    cases v' with
    | agg l' =>
      have h : le1L l l' := h
      refine ⟨le1L_pst h, fun hr => ?_, fun hr => absurd rfl (hr.na l), fun n e => (by cases e), fun e => (by cases e), fun k n e => (by cases e)⟩
      rename_i G g a w x ts
      obtain ⟨arr, e, hs, tf, htf, hc⟩ := hr
      obtain ⟨b1, b2⟩ := le1L_get h
      have : ∀ j, j < l'.length → ∃ t : List Nat, t.Sublist (tf j) ∧ ∀ e' u, l'[j]? = some e' → arr[j]? = some u → RC G g a w e' u t := by
        intro j hj
        obtain ⟨e0, he0, hle⟩ := b2 j _ (List.getElem?_eq_getElem hj)
        have hu : arr[j]? = some (arr[j]'(by omega)) := Array.getElem?_eq_getElem (by omega)
        obtain ⟨t, t1, t2⟩ := le1_rc hle (hc j e0 _ he0 hu)
        refine ⟨t, t1, fun e' u he' hu' => ?_⟩
        rw [List.getElem?_eq_getElem hj] at he'; cases he'
        rw [hu] at hu'; cases hu'
        exact t2
      obtain ⟨tf', htf'⟩ := choose_list this
      refine ⟨(List.range l'.length).flatMap tf', ?_, arr, e, by omega, tf', rfl, fun j e' y he' hy => (htf' j (lt_of_get he')).2 e' y he' hy⟩
      rw [htf, b1]; exact flat_sub fun j hj => (htf' j hj).1
    | any => exact absurd rfl hv
    | tup => exact h.elim
    | _ => exact h.elim
  | _ => exact le_flat (by cases v' <;> exact h) hv
end Go.Proofs.Ytjihjjbieeofdaa.T
namespace Go.Proofs.Ytjihjjbieeofdaa.T
set_option linter.unusedSimpArgs false
set_option linter.unusedVariables false
open Go Go.RowKit
set_option linter.unusedVariables false
set_option linter.unusedSimpArgs false
/-! ### behind a region -/
def AV.kc : AV → AV
  | .b x => .b x
  | .i k n => .i k n
  | .s x => .s x
  | .sl (some _) nl sz dp l => .sl (some 0) nl sz dp l
  | .sl none nl sz dp l => .sl none nl sz dp l
  | .fa l => .fa l
  | _ => .any
def kcL : List AV → List AV
  | [] => []
  | v :: l => v.kc :: kcL l
def AV.kc2 : AV → AV
  | .agg l => .agg (kcL l)
  | v => v.kc
def kc2L : List AV → List AV
  | [] => []
  | v :: l => v.kc2 :: kc2L l
def AV.kc3 : AV → AV
  | .tup l => .tup (kc2L l)
  | v => v.kc2
theorem kc_le1 (v : AV) : v.le1 v.kc := by
  cases v with
  | sl o nl sz dp l => cases o <;> exact ⟨rfl, .inr rfl, .inl ⟨rfl, rfl, rfl⟩⟩
  | i k n => exact ⟨rfl, rfl⟩
  | b | s | fa => exact rfl
  | _ => exact trivial
theorem kcL_le : ∀ l : List AV, le1L l (kcL l)
  | [] => trivial
  | v :: l => ⟨kc_le1 v, kcL_le l⟩
theorem kc2_le (v : AV) : v.le2 v.kc2 := by
  have h := kc_le1 v
  cases v with
  | agg l => exact kcL_le l
  | _ => exact h
theorem kc2L_le : ∀ l : List AV, le2L l (kc2L l)
  | [] => trivial
  | v :: l => ⟨kc2_le v, kc2L_le l⟩
theorem kc3_le (v : AV) : Le v v.kc3 := by
  cases v with
  | tup l => exact le_of (v := .tup l) (v' := .tup (kc2L l)) (kc2L_le l)
  | ptr n o => exact Le.any _
  | pv => exact Le.any _
  | ea => exact Le.any _
  | psl => exact Le.any _
  | pfa => exact Le.any _
  | any => exact Le.any _
  | sl o nl sz dp l =>
    cases o with
    | none => exact le_of (v := .sl none nl sz dp l) (v' := .sl none nl sz dp l) ⟨rfl, .inr rfl, .inl ⟨rfl, rfl, rfl⟩⟩
    | some s => exact le_of (v := .sl (some s) nl sz dp l) (v' := .sl (some 0) nl sz dp l) ⟨rfl, .inr rfl, .inl ⟨rfl, rfl, rfl⟩⟩
  | agg l => exact le_of (v := .agg l) (v' := .agg (kcL l)) (kcL_le l)
  | i k n => exact le_of (v := .i k n) (v' := .i k n) ⟨rfl, rfl⟩
  | b x => exact le_of (v := .b x) (v' := .b x) rfl
  | s x => exact le_of (v := .s x) (v' := .s x) rfl
  | fa x => exact le_of (v := .fa x) (v' := .fa x) rfl
def kpx (keep : List Nat) (g : St) (v : AV) : AV := match v with
  | .ptr n o => match keep.contains (loc n 999), g.get (loc n 999) with
    | true, .i _ _ => .ptr n o
    | _, _ => .any
  | .psl l => match l.all (fun p => keep.contains (loc p.1 999) && (match g.get (loc p.1 999) with
      | .i _ _ => true
      | _ => false)) with
    | true => .psl l
    | false => .any
  | .pv r [] [s] => if r < 1000 then (match keep.contains r, g.get r with
    | true, .sl (some s') _ _ _ _ => if s' = s then .pv r [] [0] else .any
    | _, _ => .any) else .any
  | v => v.kc3
def finS (keep : List Nat) (g : St) : List Nat → St
  | [] => []
  | l :: ls => match kpx keep g (g.get l) with
    | .any => finS keep g ls
    | v => (l, v) :: finS keep g ls
def finK (keep : List Nat) (g : St) : List Nat → (St → Prop) → Prop
  | [], K => K []
  | l :: ls, K => g.getK l fun v => (kpx keep g v).fc fun v => match v with
    | .any => finK keep g ls K
    | v => finK keep g ls fun r => K ((l, v) :: r)
theorem finK_eq (keep : List Nat) (g : St) : ∀ (ls : List Nat) (K : St → Prop), finK keep g ls K = K (finS keep g ls)
  | [], K => rfl
  | l :: ls, K => by
    unfold finK finS
    rw [St.getK_eq, AV.fc_eq]
    cases kpx keep g (g.get l) <;> exact finK_eq keep g ls _
theorem finS_get (keep : List Nat) (g : St) (j : Nat) : ∀ ls : List Nat, (finS keep g ls).get j = if j ∈ ls then kpx keep g (g.get j) else .any
  | [] => rfl
  | l :: ls => by
    have ih := finS_get keep g j ls
    unfold finS
    by_cases h : l = j
    · subst h
      rw [if_pos List.mem_cons_self]
      cases hk : kpx keep g (g.get l) <;> first | (simp [St.get]; done) | skip
      dsimp only
      rw [ih, hk]
      split <;> rfl
    · have hm : (j ∈ l :: ls) ↔ (j ∈ ls) := by
        rw [List.mem_cons]
        exact ⟨fun hh => hh.resolve_left (fun e => h e.symm), .inr⟩
      have hi : (if j ∈ l :: ls then kpx keep g (g.get j) else .any) = if j ∈ ls then kpx keep g (g.get j) else .any := by
        by_cases hj : j ∈ ls
        · rw [if_pos (hm.2 hj), if_pos hj]
        · rw [if_neg (fun hh => hj (hm.1 hh)), if_neg hj]
      rw [hi, ← ih]
      cases hk : kpx keep g (g.get l) <;> simp [St.get, h]
theorem kpx_le (keep : List Nat) (g : St) (v : AV) : Le v (kpx keep g v) ∨ ∃ r s nl sz dp c, r < 1000 ∧ v = .pv r [] [s] ∧ g.get r = .sl (some s) nl sz dp c ∧ kpx keep g v = .pv r [] [0] := by
  unfold kpx
  split
  · split
    · exact .inl (le_of (v := .ptr _ _) (v' := .ptr _ _) ⟨rfl, rfl⟩)
    · exact .inl (Le.any _)
  · split
    · exact .inl (le_of (v := .psl _) (v' := .psl _) rfl)
    · exact .inl (Le.any _)
  · split
    · rename_i r s hr
      split
      · rename_i s' nl sz dp c hk hg
        split
        · rename_i e
          subst e
          exact .inr ⟨r, s', nl, sz, dp, c, hr, rfl, hg, rfl⟩
        · exact .inl (Le.any _)
      · exact .inl (Le.any _)
    · exact .inl (Le.any _)
  · exact .inl (kc3_le _)
theorem _root_.Or.nopl {g g' : Nat → AV} {l : Nat} (h : Le (g l) (g' l) ∨ LeP g g' l) : ∀ s ∈ (g' l).pst, s = 0 := by
  rcases h with h | ⟨r, s, nl, sz, dp, c, _, _, _, e⟩
  · rw [h.pl]; intro s hs; cases hs
  · rw [e]; intro s hs; simpa [AV.pst, AV.pst1] using hs
theorem kc3_pbx (v : AV) : v.kc3.pbx = [] := by
  cases v with
  | agg l => rfl
  | tup l => rfl
  | sl o nl sz dp l => cases o <;> rfl
  | _ => rfl
theorem kpx_pbx {keep : List Nat} {g : St} {v : AV} {n : Nat} (h : n ∈ (kpx keep g v).pbx) : loc n 999 ∈ keep ∧ ∃ k z, g.get (loc n 999) = .i k z := by
  unfold kpx at h
  split at h
  · rename_i m o
    split at h
    · rename_i k z h1 h2
      have e : n = m := by simpa [AV.pbx] using h
      subst e
      exact ⟨by simpa using h1, k, z, h2⟩
    · cases h
  · split at h
    · rename_i h1
      obtain ⟨p, hp, e⟩ := List.mem_map.1 h
      have := List.all_eq_true.1 h1 p hp
      rw [Bool.and_eq_true] at this
      have e : p.1 = n := e
      subst e
      refine ⟨by simpa using this.1, ?_⟩
      have h3 := this.2
      split at h3
      · rename_i k z h4; exact ⟨k, z, h4⟩
      · cases h3
    · cases h
  · split at h
    · split at h
      · split at h <;> cases h
      · cases h
    · cases h
  · rw [kc3_pbx] at h; cases h
theorem fin_rel {W0 : Bs} {N : Nat} {G : Gh} {g : St} {a : Act} {w : World} (h : Rel W0 N G g.get a w []) (keep : List Nat) : NoPl (finS keep g keep).get ∧ ∃ G', Rel W0 N G' (finS keep g keep).get a w [] := by
  have hle : ∀ l, Le (g.get l) ((finS keep g keep).get l) ∨ LeP g.get (finS keep g keep).get l := fun l => by
    unfold LeP
    rw [finS_get]
    split
    · exact kpx_le _ _ _
    · exact .inl (Le.any _)
  refine ⟨fun l => (hle l).nopl, h.weak hle fun l n e => ?_⟩
  rw [finS_get] at e
  split at e
  · obtain ⟨h1, k, z, h2⟩ := kpx_pbx e
    rw [finS_get, if_pos h1, h2]
    exact fun h => (by cases h)
  · cases e
/-! ### less is known, by hand -/
def leS (st : St) (v v' : AV) : Prop := match v, v' with
  | .pv r [] [0], .pv r' [] [0] => r = r' ∧ r < 1000 ∧ st.getK r fun c => match c with
    | .sl (some 0) _ _ _ _ => True
    | _ => False
  | v, v' => v.le v'
def subK (st : St) : St → Prop
  | [] => True
  | (l, v') :: r => (st.getK l fun v => leS st v v') ∧ subK st r
def ptrB1 (g : St) (n : Nat) : Bool := match g.get (loc n 999) with
  | .any => false
  | _ => true
def ptrB (g : St) : St → Bool
  | [] => true
  | (_, v) :: r => v.pbx.all (ptrB1 g) && ptrB g r
theorem leS_le {st : St} {v v' : AV} (h : leS st v v') : Le v v' ∨ ∃ r nl sz dp c, r < 1000 ∧ v = .pv r [] [0] ∧ st.get r = .sl (some 0) nl sz dp c ∧ v' = .pv r [] [0] := by
  unfold leS at h
  split at h
  · obtain ⟨rfl, h1, h2⟩ := h
    rw [St.getK_eq] at h2
    split at h2
    · rename_i nl sz dp c hc
      exact .inr ⟨_, nl, sz, dp, c, h1, rfl, hc, rfl⟩
    · exact h2.elim
  · exact .inl (le_of h)
theorem subK_le {st : St} (l : Nat) : ∀ {st' : St}, subK st st' → Le (st.get l) (st'.get l) ∨ ∃ r nl sz dp c, r < 1000 ∧ st.get l = .pv r [] [0] ∧ st.get r = .sl (some 0) nl sz dp c ∧ st'.get l = .pv r [] [0]
  | [], _ => .inl (Le.any _)
  | (k, v') :: r, h => by
    obtain ⟨h1, h2⟩ := h
    rw [St.getK_eq] at h1
    have e0 : St.get ((k, v') :: r) l = if k = l then v' else St.get r l := rfl
    rw [e0]
    by_cases e : k = l
    · subst e; rw [if_pos rfl]; exact leS_le h1
    · rw [if_neg e]; exact subK_le l h2
theorem subK_leP {st st' : St} (h : subK st st') (l : Nat) : Le (st.get l) (st'.get l) ∨ LeP st.get st'.get l := by
  rcases subK_le l h with h1 | ⟨r, nl, sz, dp, c, h1, h2, h3, h4⟩
  · exact .inl h1
  · exact .inr ⟨r, 0, nl, sz, dp, c, h1, h2, h3, h4⟩
theorem ptrB_get {g : St} (l n : Nat) : ∀ {st : St}, ptrB g st = true → n ∈ (st.get l).pbx → g.get (loc n 999) ≠ .any
  | [], _, e => by cases e
  | (k, v) :: r, h, e => by
    unfold ptrB at h
    rw [Bool.and_eq_true] at h
    unfold St.get at e
    split at e
    · have := List.all_eq_true.1 h.1 n e
      unfold ptrB1 at this
      intro hn
      rw [hn] at this
      cases this
    · exact ptrB_get l n h.2 e
/-- st' tells no more than st. -/
structure Sub (st st' : St) : Prop where
  ptr : ptrB st' st' = true
  le : subK st st'
/-- What is known of a frame and a world. -/
def Sat (W0 : Bs) (N : Nat) (st : St) (a : Act) (w : World) : Prop := NoPl st.get ∧ ∃ G, Rel W0 N G st.get a w []
theorem Sat.sub {W0 : Bs} {N : Nat} {st st' : St} {a : Act} {w : World} (h : Sat W0 N st a w) (hs : Sub st st') : Sat W0 N st' a w := by
  obtain ⟨_, G, h⟩ := h
  exact ⟨fun l => (subK_leP hs.2 l).nopl, h.weak (fun l => subK_leP hs.2 l) fun l n e => ptrB_get l n hs.1 e⟩
/-! ### code -/
structure WP (P : Program) (W0 : Bs) (N : Nat) (c : Code) (st : St) (K : Exit → St → Prop) : Prop where
  run : ∀ (Q : Exit → Act → World → Prop) (a : Act) (w : World), Sat W0 N st a w → (∀ e st' a' w', K e st' → Sat W0 N st' a' w' → Q e a' w') → c.wp P Q a w
def thenK (K1 : St → Prop) (K : Exit → St → Prop) : Exit → St → Prop
  | .normal, st => K1 st
  | e, st => K e st
def blockK (id : Nat) (K : Exit → St → Prop) : Exit → St → Prop
  | .exit i, st => match Nat.beq i id with
    | true => K .normal st
    | false => K (.exit i) st
  | e, st => K e st
/-- A case. -/
structure Br (x : Bool) (A B : Prop) : Prop where
  t : x = true → A
  f : x = false → B
def keepOf : List (Nat × List Nat) → Nat → List Nat
  | [], _ => []
  | (i, l) :: r, k => match Nat.beq i k with
    | true => l
    | false => keepOf r k
section
variable {P : Program} {W0 : Bs} {N : Nat} {st : St} {K : Exit → St → Prop} {E : Env}
theorem WP.sub {c : Code} {st' : St} (hs : Sub st st') (h : WP P W0 N c st' K) : WP P W0 N c st K :=
  ⟨fun Q a w hsat hQ => h.run Q a w (hsat.sub hs) hQ⟩
theorem WP.mono {c : Code} {K' : Exit → St → Prop} (h : WP P W0 N c st K) (hK : ∀ e st, K e st → K' e st) : WP P W0 N c st K' :=
  ⟨fun Q a w hsat hQ => h.run Q a w hsat fun e st' a' w' hk => hQ e st' a' w' (hK e st' hk)⟩
theorem WP.seq {c d : Code} (h : WP P W0 N c st (thenK (fun st' => WP P W0 N d st' K) K)) : WP P W0 N (.seq c d) st K := by
  constructor
  intro Q a w hsat hQ
  refine wp_seq (h.run _ a w hsat fun e st' a' w' hk hs => ?_)
  cases e with
  | normal => exact hk.run Q a' w' hs hQ
  | _ => exact hQ _ st' a' w' hk hs
theorem WP.skip (h : K .normal st) : WP P W0 N .skip st K := ⟨fun Q a w hsat hQ => wp_skip (hQ _ _ _ _ h hsat)⟩
theorem WP.exit {id : Nat} (h : K (.exit id) st) : WP P W0 N (.exit id) st K := ⟨fun Q a w hsat hQ => wp_exit (hQ _ _ _ _ h hsat)⟩
theorem WP.ret (h : K .ret st) : WP P W0 N .ret st K := ⟨fun Q a w hsat hQ => wp_ret (hQ _ _ _ _ h hsat)⟩
theorem WP.block {id : Nat} {c : Code} (h : WP P W0 N c st (blockK id K)) : WP P W0 N (.block id c) st K := by
  constructor
  intro Q a w hsat hQ
  refine wp_block (h.run _ a w hsat fun e st' a' w' hk hs => ?_)
  cases e with
  | exit i =>
    simp only [blockK] at hk
    simp only [Exit.inBlock]
    by_cases hi : i = id
    · subst hi
      rw [if_pos rfl]
      have : Nat.beq i i = true := Nat.beq_refl i
      rw [this] at hk
      exact hQ _ _ _ _ hk hs
    · rw [if_neg hi]
      have : Nat.beq i id = false := by
        cases hb : Nat.beq i id
        · rfl
        · exact absurd (Nat.eq_of_beq_eq_true hb) hi
      rw [this] at hk
      exact hQ _ _ _ _ hk hs
  | _ => exact hQ _ st' a' w' hk hs
theorem WP.region {id : Nat} {ops : Array Oper} {draw : Bool} (hm : P.follows .mixedOrders = true) (hE : E.tb.okB P = true) (h : opsE (Impl P) E ops 0 ops.toList st [] (fun g Ls => regB draw N ops Ls.reverse = true ∧ finK (keepOf E.keep id) g (keepOf E.keep id) (K .normal))) : WP P W0 N (.region id ops draw) st K := by
  constructor
  intro Q a w hsat hQ
  obtain ⟨hp, G, hr⟩ := hsat
  refine region_wp hm hE hr hp h fun g G' a' w' hpost hr' _ => ?_
  rw [finK_eq] at hpost
  exact hQ _ _ _ _ hpost (fin_rel hr' _)
def condK (t : Operand) (st : St) (A B : Prop) : Prop := match t with
  | .tmp t => st.getK t fun v => match v with
    | .b x => t < N ∧ Br x A B
    | _ => False
  | .const (.bool x) => Br x A B
  | _ => False
theorem WP.cond {t : Operand} {c d : Code} (h : condK (N := N) t st (WP P W0 N c st K) (WP P W0 N d st K)) : WP P W0 N (.cond t c d) st K := by
  constructor
  intro Q a w hsat hQ
  have key : ∀ x, a.eval t = .bool x → Br x (WP P W0 N c st K) (WP P W0 N d st K) → (Code.cond t c d).wp P Q a w := fun x hx hb =>
    wp_cond_split hx (fun e => (hb.t e).run Q a w hsat hQ) (fun e => (hb.f e).run Q a w hsat hQ)
  cases t with
  | tmp t =>
    simp only [condK, St.getK_eq] at h
    split at h
    · rename_i x hx
      obtain ⟨ht, hb⟩ := h
      obtain ⟨_, G, hr⟩ := hsat
      have := hr.sl t ht
      rw [hx] at this
      refine key x ?_ hb
      show a.tmps.getD t undef = _
      generalize a.tmps.getD t undef = y at this ⊢
      generalize G.tk t = ts at this
      cases this
      rfl
    · exact h.elim
  | const c =>
    cases c with
    | bool x => exact key x rfl h
    | _ => exact h.elim
  | _ => exact h.elim
/-- A loop: I i: known ahead of a round. -/
theorem WP.loop {c : Code} {ι : Type} (I : ι → St) (φ : ι → Prop) (μ : ι → Nat) (i : ι) (h0 : φ i ∧ Sub st (I i)) (h : ∀ i, φ i → WP P W0 N c (I i) (thenK (fun st' => ∃ j, (φ j ∧ μ j < μ i) ∧ Sub st' (I j)) K)) : WP P W0 N (.loop c) st K := by
  constructor
  intro Q a w hsat hQ
  refine wp_loop_rounds (μ i + 1) ?_
  have key : ∀ (n : Nat) (i : ι) (a : Act) (w : World), φ i → μ i < n → Sat W0 N (I i) a w → Code.rounds P c Q n a w := by
    intro n
    induction n with
    | zero => intro i a w _ hi; exact absurd hi (Nat.not_lt_zero _)
    | succ n ih =>
      intro i a w hf hi hs
      rw [rounds_succ]
      refine (h i hf).run _ a w hs fun e st' a' w' hk hs' => ?_
      cases e with
      | normal =>
        obtain ⟨j, ⟨hj1, hj⟩, hsub⟩ := hk
        exact ih j a' w' hj1 (by omega) (hs'.sub hsub)
      | _ => exact hQ _ st' a' w' hk hs'
  exact key _ i a w h0.1 (Nat.lt_succ_self _) (hsat.sub h0.2)
end
end Go.Proofs.Ytjihjjbieeofdaa.T
namespace Go.Proofs.Ytjihjjbieeofdaa.T
set_option linter.unusedSimpArgs false
set_option linter.unusedVariables false
open Go Go.RowKit
set_option linter.unusedVariables false
set_option linter.unusedSimpArgs false
def argS : Nat → List AV → St
  | _, [] => []
  | t, v :: l => (t, v) :: argS (t + 1) l
theorem argS_get (j : Nat) : ∀ (l : List AV) (t : Nat), (argS t l).get j = if t ≤ j then (l[j - t]?).getD .any else .any
  | [], t => by simp [argS, St.get]
  | v :: l, t => by
    unfold argS
    show (if t = j then v else (argS (t + 1) l).get j) = _
    by_cases h : t = j
    · subst h; simp
    · rw [if_neg h, argS_get j l (t + 1)]
      by_cases h2 : t ≤ j
      · rw [if_pos h2, if_pos (by omega), show j - t = (j - (t + 1)) + 1 by omega, List.getElem?_cons_succ]
      · rw [if_neg h2, if_neg (by omega)]
/-- Cells of a box, as they are. -/
def rdK (st : St) (n : Nat) : Nat → Nat → (List AV → Prop) → Prop
  | _, 0, K => K []
  | j, z + 1, K => st.getK (loc n j) fun v => rdK st n (j + 1) z fun l => K (v :: l)
theorem rdK_eq (st : St) (n : Nat) : ∀ (z j : Nat) (K : List AV → Prop), rdK st n j z K = K ((List.range z).map fun q => st.get (loc n (j + q)))
  | 0, j, K => rfl
  | z + 1, j, K => by
    unfold rdK
    rw [St.getK_eq, rdK_eq st n z (j + 1), List.range_succ_eq_map, List.map_cons, List.map_map, Nat.add_zero]
    congr 2
    apply List.map_congr_left
    intro q _
    simp only [Function.comp]
    congr 2
    omega
def resK1 (tb : Tb) (N : Nat) (st : St) (r : AV) : ResultVar → Prop
  | .tmp t => t < N ∧ st.getK t fun v => v.le2 r
  | .cell s t => match tb.get t with
    | some i => s < N ∧ st.getK s fun v => match v with
      | .ptr n 0 => st.getK (loc n 999) fun f => match f with
        | .i .i64 z => (i.size : Int) ≤ z ∧ rdK st n 0 i.size fun cs => match i.isAgg with
          | true => (AV.agg cs).le2 r
          | false => match cs with
            | c :: _ => c.le2 r
            | [] => False
        | _ => False
      | _ => False
    | none => False
def resKL (tb : Tb) (N : Nat) (st : St) : List AV → List ResultVar → Prop
  | [], [] => True
  | r :: rs, v :: vs => resK1 tb N st r v ∧ resKL tb N st rs vs
  | _, _ => False
/-- Where a result lies: a slot, or the slot of a box. -/
def keyR (st : St) : ResultVar → Nat × Nat
  | .tmp t => (0, t)
  | .cell s _ => match st.get s with
    | .ptr n _ => (1, n)
    | _ => (2, 0)
def retR (tb : Tb) (N : Nat) (rs : List ResultVar) (r : AV) (st : St) : Prop := match rs with
  | [v] => resK1 tb N st r v
  | rs => match r with
    | .tup l => (rs.map (keyR st)).Nodup ∧ resKL tb N st l rs
    | _ => False
def retK (tb : Tb) (N : Nat) (rs : List ResultVar) (r : AV) (e : Exit) (st : St) : Prop := match e with
  | .normal => retR tb N rs r st
  | .ret => retR tb N rs r st
  | _ => False
section
variable {P : Program} {W0 : Bs} {N : Nat} {G : Gh} {st : St} {a : Act} {w : World} {tb : Tb}
def resS : ResultVar → Array Value → Sem Value
  | .tmp t, tmps => pure (tmps.getD t undef)
  | .cell a t, tmps => do loadVar t (← asAddr (tmps.getD a undef))
theorem rv_rw {v r : AV} (h : v.le2 r) {g : Nat → AV} {x : Value} {ts : List Nat} (hr : RV G g a w v x ts) : ∃ ts', ts'.Sublist ts ∧ RW w G.F r x ts' := by
  have hle : Le v r := by
    cases v with
    | tup l =>
      cases r with
      | any => exact Le.any _
      | _ => exact h.elim
    | ptr n o =>
      cases r with
      | any => exact Le.any _
      | _ => exact h.elim
    | psl l =>
      cases r with
      | any => exact Le.any _
      | _ => exact h.elim
    | _ => exact le_of h
  obtain ⟨ts', h1, h2⟩ := hle.rv hr
  by_cases hv : r = .any
  · subst hv; exact ⟨[], List.nil_sublist _, rfl⟩
  refine ⟨ts', h1, ?_⟩
  cases r with
  | agg l' =>
    cases v with
    | agg l =>
      have h : le1L l l' := h
      obtain ⟨arr, e, hs, tf, htf, hc⟩ := h2
      refine ⟨arr, e, ?_⟩
      rw [htf]
      refine .agg (by simpa using hs) (fun j e' he' => ?_) (fun j e' u he' hu => ?_)
      · obtain ⟨e0, _, hl⟩ := (le1L_get h).2 j e' he'; exact (le1_na hl).1
      · obtain ⟨e0, _, hl⟩ := (le1L_get h).2 j e' he'
        have hrc := hc j e' u he' (by simpa using hu)
        have hpl := (le1_na hl).2.2.2.1
        have hpv : ∀ r ix ss, e' ≠ .pv r ix ss := by
          intro r ix ss e
          subst e
          cases e0 <;> exact hl.elim
        cases e' <;> first | exact hrc | exact hrc.elim | exact absurd rfl (hpv _ _ _)
    | any => exact h.elim
    | _ => exact h.elim
  | any => exact absurd rfl hv
  | tup l => cases v <;> exact h.elim
  | ptr n o => cases v <;> exact h.elim
  | pv r ix ss => cases v <;> exact h.elim
  | ea r ix ss d u => cases v <;> exact h.elim
  | psl l => cases v <;> exact h.elim
  | pfa n o => cases v <;> exact h.elim
  | _ => exact h2
/-- Tokens come out of the places of a key. -/
def inKey (G : Gh) (k : Nat × Nat) (b : Nat) : Prop := (k.1 = 0 ∧ k.2 < 1000 ∧ b ∈ G.tk k.2) ∨ (k.1 = 1 ∧ ∃ j, j < 900 ∧ b ∈ G.tk (loc k.2 j))
theorem inKey_eq {k k' : Nat × Nat} {b : Nat} (h : Rel W0 N G st.get a w []) (h1 : inKey G k b) (h2 : inKey G k' b) : k = k' := by
  obtain ⟨k1, k2⟩ := k
  obtain ⟨k1', k2'⟩ := k'
  rcases h1 with ⟨e1, l1, m1⟩ | ⟨e1, j1, l1, m1⟩ <;> rcases h2 with ⟨e2, l2, m2⟩ | ⟨e2, j2, l2, m2⟩ <;> simp only at e1 l1 m1 e2 l2 m2 <;> subst e1 <;> subst e2
  · rw [h.td _ _ b m1 m2]
  · have := h.td _ _ b m1 m2; have := loc_ge k2' j2; omega
  · have := h.td _ _ b m1 m2; have := loc_ge k2 j1; omega
  · have := loc_inj (by omega) (by omega) (h.td _ _ b m1 m2); rw [this.1]
theorem res1_ok (hE : tb.okB P = true) (h : Rel W0 N G st.get a w []) {rv : ResultVar} {r : AV} (hk : resK1 tb N st r rv) : ∃ x ts, (resS rv a.tmps).run P w = .ok x w ∧ RW w G.F r x ts ∧ ts.Nodup ∧ ∀ b ∈ ts, inKey G (keyR st rv) b := by
  cases rv with
  | tmp t =>
    obtain ⟨ht, hk⟩ := hk
    rw [St.getK_eq] at hk
    obtain ⟨ts', h1, h2⟩ := rv_rw hk (h.sl t ht)
    exact ⟨_, ts', rfl, h2, h1.nodup (h.tn t), fun b hb => .inl ⟨rfl, Nat.lt_of_lt_of_le ht h.hN, h1.subset hb⟩⟩
  | cell s t =>
    simp only [resK1] at hk
    split at hk
    case h_2 => exact hk.elim
    rename_i i hi
    obtain ⟨hs, hk⟩ := hk
    rw [St.getK_eq] at hk
    split at hk
    case h_2 => exact hk.elim
    rename_i n hn
    rw [St.getK_eq] at hk
    split at hk
    case h_2 => exact hk.elim
    rename_i z hz
    obtain ⟨hle, hk⟩ := hk
    rw [rdK_eq] at hk
    obtain ⟨info, ds, zz, hty⟩ := tb_ok hE hi
    have hsl := h.sl s hs
    rw [hn] at hsl
    obtain ⟨_, b, z', hb, hx⟩ := hsl
    obtain ⟨x1, x2, x3, x4, arr, ty, x5, x6, x7⟩ := h.bx n b z' hb
    have hzz := h.bs n b z' hb z hz
    subst hzz
    have hle : i.size ≤ z' := by omega
    have hcell : ∀ q, q < i.size → w.cell? ⟨b, 0 + q, none⟩ = some (arr.getD q undef) := by
      intro q hq
      rw [Nat.zero_add, cell_of_block x5, Array.getD_eq_getD_getElem?, Array.getElem?_eq_getElem (by omega)]; rfl
    have hrun : (resS (.cell s t) a.tmps).run P w = .ok (if i.isAgg then .agg ((List.range i.size).map fun q => arr.getD q undef).toArray else arr.getD 0 undef) w := by
      have := loadAt_run (w := w) hty hcell
      simp only [resS]
      rw [hx]
      simpa [Instr.loadAt, Instr.sureAddr, asAddr] using this
    have hRB : ∀ q, q < i.size → RB w G.F (st.get (loc n q)) (arr.getD q undef) (G.tk (loc n q)) := by
      intro q hq
      refine x7 q _ (by omega) ?_
      rw [Array.getD_eq_getD_getElem?, Array.getElem?_eq_getElem (by omega)]; rfl
    have hin : ∀ q, q < i.size → ∀ b' ∈ G.tk (loc n q), inKey G (keyR st (.cell s t)) b' := by
      intro q hq b' hb'
      refine .inr ?_
      have e : keyR st (.cell s t) = (1, n) := by simp only [keyR, hn]
      rw [e]
      exact ⟨rfl, q, by omega, hb'⟩
    cases hag : i.isAgg with
    | true =>
      rw [hag] at hk hrun
      simp only [Nat.zero_add] at hk
      have hrp : Rp w G.F (.agg ((List.range i.size).map fun q => st.get (loc n q))) ((List.range i.size).map fun q => arr.getD q undef) ((List.range i.size).flatMap fun q => G.tk (loc n q)) := by
        have := Rp.agg (w := w) (F := G.F) (l := (List.range i.size).map fun q => st.get (loc n q)) (cs := (List.range i.size).map fun q => arr.getD q undef) (ts := fun q => G.tk (loc n q)) (by simp) (fun j e he => ?_) (fun j e u he hu => ?_)
        · simpa using this
        · have hj := lt_of_get he
          rw [List.length_map, List.length_range] at hj
          rw [List.getElem?_map, List.getElem?_range hj] at he
          cases he
          exact (hRB j hj).na
        · have hj := lt_of_get he
          rw [List.length_map, List.length_range] at hj
          rw [List.getElem?_map, List.getElem?_range hj] at he hu
          cases he; cases hu
          exact (hRB j hj).rp
      obtain ⟨ts', t1, t2⟩ := le2_rw hk (w := w) (F := G.F) (y := .agg ((List.range i.size).map fun q => arr.getD q undef).toArray) ⟨_, rfl, by simpa using hrp⟩
      refine ⟨_, ts', hrun, t2, t1.nodup (nodup_flat (fun j _ => h.tn _) (fun p q b' hp hq h1 h2 => (loc_inj (by omega) (by omega) (h.td _ _ b' h1 h2)).2)), fun b' hb' => ?_⟩
      obtain ⟨q, hq, hb'⟩ := of_mem_flat (t1.subset hb')
      exact hin q hq b' hb'
    | false =>
      rw [hag] at hk hrun
      have hsz := hty.one hag
      rw [hsz] at hk
      have hk : (st.get (loc n (0 + 0))).le2 r := hk
      rw [Nat.zero_add] at hk
      have h0 := hRB 0 (by omega)
      have hRW : RW w G.F (st.get (loc n 0)) (arr.getD 0 undef) (G.tk (loc n 0)) := by
        have h1 := h0.rp
        have h2 := h0.na
        generalize st.get (loc n 0) = v at h1 h2
        generalize G.tk (loc n 0) = ts at h1
        cases v with
        | agg l => exact absurd rfl (h2 l)
        | any => cases h1; rfl
        | _ => exact h1
      obtain ⟨ts', t1, t2⟩ := le2_rw hk hRW
      exact ⟨_, ts', hrun, t2, t1.nodup (h.tn _), fun b' hb' => hin 0 (by omega) b' (t1.subset hb')⟩
theorem resL_ok (hE : tb.okB P = true) (h : Rel W0 N G st.get a w []) : ∀ {rs : List ResultVar} {l : List AV}, resKL tb N st l rs → (rs.map (keyR st)).Nodup → ∃ (xs : List Value) (tf : Nat → List Nat), (rs.mapM fun rv => resS rv a.tmps).run P w = .ok xs w ∧ xs.length = l.length ∧ (∀ j e y, l[j]? = some e → xs[j]? = some y → RW w G.F e y (tf j)) ∧ (∀ j, j < l.length → (tf j).Nodup) ∧ ∀ j b, j < l.length → b ∈ tf j → ∃ rv, rs[j]? = some rv ∧ inKey G (keyR st rv) b
  | [], [], _, _ => ⟨[], fun _ => [], by simp, rfl, fun j e y he => (by cases he), fun j hj => absurd hj (Nat.not_lt_zero _), fun j b hj => absurd hj (Nat.not_lt_zero _)⟩
  | rv :: rs, r :: l, hk, hn => by
    obtain ⟨hk1, hk2⟩ := hk
    rw [List.map_cons, List.nodup_cons] at hn
    obtain ⟨x, ts, q1, q2, q3, q4⟩ := res1_ok hE h hk1
    obtain ⟨xs, tf, p1, p2, p3, p4, p5⟩ := resL_ok hE h hk2 hn.2
    refine ⟨x :: xs, fun j => if j = 0 then ts else tf (j - 1), ?_, by simp [p2], fun j e y he hy => ?_, fun j hj => ?_, fun j b hj hb => ?_⟩
    · rw [List.mapM_cons]
      simp [q1, p1]
    · cases j with
      | zero =>
        simp only [List.getElem?_cons_zero, Option.some.injEq] at he hy
        subst he; subst hy
        simpa using q2
      | succ j =>
        simp only [List.getElem?_cons_succ] at he hy
        simpa using p3 j e y he hy
    · cases j with
      | zero => simpa using q3
      | succ j => simpa using p4 j (by simpa using hj)
    · cases j with
      | zero => exact ⟨rv, rfl, q4 b (by simpa using hb)⟩
      | succ j =>
        obtain ⟨rv', h1, h2⟩ := p5 j b (by simpa using hj) (by simpa using hb)
        exact ⟨rv', by simpa using h1, h2⟩
  | [], _ :: _, hk, _ => hk.elim
  | _ :: _, [], hk, _ => hk.elim
/-- What comes back. -/
theorem ret_ok (hE : tb.okB P = true) (h : Rel W0 N G st.get a w []) {fn : Func} {r : AV} {e : Exit} (hk : retK tb N fn.results.toList r e st) : ∃ x ts, (results fn a.tmps).run P w = .ok x w ∧ RT w G.F r x ts ∧ ts.Nodup ∧ ∀ b ∈ ts, W0.w.heap.size ≤ b ∧ b < w.heap.size ∧ ¬ G.F b := by
  have hkey : ∀ k b, inKey G k b → W0.w.heap.size ≤ b ∧ b < w.heap.size ∧ ¬ G.F b := by
    intro k b hb
    rcases hb with ⟨_, _, hb⟩ | ⟨_, j, _, hb⟩
    · obtain ⟨x1, x2, x3, _⟩ := h.tk _ b hb; exact ⟨x1, x2, x3⟩
    · obtain ⟨x1, x2, x3, _⟩ := h.tk _ b hb; exact ⟨x1, x2, x3⟩
  have hres : results fn a.tmps = (do
      let vs ← fn.results.toList.mapM fun rv => resS rv a.tmps
      pure (if hh : vs.length = 1 then vs[0] else .tuple vs.toArray)) := by
    unfold results
    rw [Array.mapM_eq_mapM_toList]
    rw [bind_map_left]
    simp only [List.size_toArray, List.getElem_toArray]
    refine congrArg (fun f : ResultVar → Sem Value => (do
      let vs ← fn.results.toList.mapM f
      pure (if hh : vs.length = 1 then vs[0] else .tuple vs.toArray) : Sem Value)) ?_
    funext rv
    cases rv <;> rfl
  replace hk : retR tb N fn.results.toList r st := by cases e <;> first | exact hk | exact hk.elim
  unfold retR at hk
  rw [hres]
  split at hk
  · rename_i v hv
    rw [hv]
    obtain ⟨x, ts, q1, q2, q3, q4⟩ := res1_ok hE h hk
    refine ⟨x, ts, by simp [q1], ?_, q3, fun b hb => hkey _ b (q4 b hb)⟩
    cases r with
    | tup l =>
      cases v with
      | tmp t => obtain ⟨_, hk⟩ := hk; rw [St.getK_eq] at hk; generalize st.get t = vv at hk; cases vv <;> exact hk.elim
      | cell s t => cases q2
    | _ => exact q2
  · rename_i hne
    split at hk
    case h_2 => exact hk.elim
    rename_i l
    obtain ⟨hn, hk⟩ := hk
    obtain ⟨xs, tf, p1, p2, p3, p4, p5⟩ := resL_ok hE h hk hn
    have hlen : ∀ {rs : List ResultVar} {l : List AV}, resKL tb N st l rs → rs.length = l.length := by
      intro rs
      induction rs with
      | nil => intro l h; cases l <;> first | rfl | exact h.elim
      | cons v rs ih => intro l h; cases l with
        | nil => exact h.elim
        | cons r l => simp [ih h.2]
    have hl := hlen hk
    have hx1 : ¬ xs.length = 1 := by
      intro hx
      have : fn.results.toList.length = 1 := by omega
      obtain ⟨v, hv⟩ := List.length_eq_one_iff.1 this
      exact hne v hv
    refine ⟨.tuple xs.toArray, (List.range l.length).flatMap tf, by simp [p1, hx1], ⟨xs.toArray, rfl, by simpa using p2, tf, rfl, fun j e y he hy => p3 j e y he (by simpa using hy)⟩, nodup_flat p4 (fun i j b hi hj h1 h2 => ?_), fun b hb => ?_⟩
    · obtain ⟨v1, e1, k1⟩ := p5 i b hi h1
      obtain ⟨v2, e2, k2⟩ := p5 j b hj h2
      have e := inKey_eq h k1 k2
      refine (List.getElem?_inj (i := i) (j := j) (l := fn.results.toList.map (keyR st)) (by rw [List.length_map]; omega) hn).1 ?_
      rw [List.getElem?_map, List.getElem?_map, e1, e2, Option.map_some, Option.map_some, e]
    · obtain ⟨j, hj, hb⟩ := of_mem_flat hb
      obtain ⟨v1, e1, k1⟩ := p5 j b hj hb
      exact hkey _ b k1
end
theorem rt_mono {w : World} {F F' : Nat → Prop} {v : AV} {x : Value} {ts : List Nat} (h : RT w F v x ts) (hF : ∀ b, F b → F' b) : RT w F' v x ts := by
  cases v with
  | tup l =>
    obtain ⟨vs, e1, e2, tf, e3, e4⟩ := h
    exact ⟨vs, e1, e2, tf, e3, fun j e y he hy => (e4 j e y he hy).mono hF⟩
  | _ => exact RW.mono (rt_rw h (fun l e => (by cases e))) hF
def headOk : List AV → Bool
  | .tup _ :: _ => false
  | _ => true
theorem headOk_impl {P : Program} {f : Nat} {ars : List AV} {r : AV} (h : headOk ars = true) (hi : ImplF P f ars r) : Impl P f ars r := by
  refine ⟨?_⟩
  split
  · cases h
  · exact hi
theorem no_pst {v : AV} (h : v.pst = []) : ∀ s ∈ v.pst, s = 0 := fun s hs => by rw [h] at hs; cases hs
theorem impl_of {P : Program} {tb : Tb} {f : Nat} {fn : Func} {c : Code} {ars : List AV} {r : AV} (hE : tb.okB P = true) (hf : P.funcs[f]? = some fn) (hn : (fn.name == "runtime.NumGoroutine") = false) (hb : fn.body = some c) (hl : ars.length ≤ fn.ntmps ∧ fn.ntmps ≤ 1000) (hna : headOk ars = true) (h : ∀ W0, WP P W0 fn.ntmps c (argS 0 ars) (retK tb fn.ntmps fn.results.toList r)) : Impl P f ars r := by
  refine headOk_impl hna ⟨⟨fn, hf, hn, by rw [hb]; rfl⟩, fun F w vs hs hv hF => calls_of_wp hf hb ?_⟩
  have hpl : ∀ (j : Nat) (e : AV), ars[j]? = some e → e.pst = [] ∧ (∀ n o, e ≠ .ptr n o) ∧ ∀ x ∈ [e], True := by
    intro j e he
    have hj := lt_of_get he
    have hv1 := hv j e (vs[j]'(by omega)) he (Array.getElem?_eq_getElem (by omega))
    refine ⟨?_, fun n o e' => (by subst e'; cases hv1), fun _ _ => trivial⟩
    cases e with
    | agg l =>
      obtain ⟨arr, _, h1⟩ := hv1
      obtain ⟨tf, a1, a2, a3, a4⟩ := rp_agg h1
      refine List.eq_nil_iff_forall_not_mem.2 fun x hx => ?_
      obtain ⟨e', he', hx⟩ := List.mem_flatMap.1 hx
      obtain ⟨q, hq⟩ := List.mem_iff_getElem?.1 he'
      have hql := lt_of_get hq
      have := a3 q e' (arr.toList[q]'(by omega)) hq (List.getElem?_eq_getElem (by omega))
      cases e' <;> first | (cases hx; done) | (cases this; done)
    | pv => cases hv1
    | ea => cases hv1
    | _ => rfl
  have hget : ∀ j, (argS 0 ars).get j = (ars[j]?).getD .any := fun j => by rw [argS_get]; simp
  have hsat : Sat ⟨w, F, fun _ => False⟩ fn.ntmps (argS 0 ars) { tmps := vs ++ Array.replicate (fn.ntmps - vs.size) undef, defers := [] } w := by
    refine ⟨fun l => ?_, ⟨F, fun _ => none, fun _ => []⟩, ⟨hl.2, by simp; omega, rfl, ⟨rfl, rfl, rfl, Nat.le_refl _, fun _ _ _ => rfl, fun _ hb => hb.elim⟩, fun t ht => ?_, fun t h1 h2 => ?_, fun n b z hb => (by cases hb), fun n _ => rfl, fun n b z hb => (by cases hb), fun n m b z z' hb => (by cases hb), fun l b hb => (by cases hb), fun l => List.nodup_nil, fun l l' b hb => (by cases hb), hF, fun b hb => .inl hb, fun b hb => (by cases hb), List.nodup_nil, fun b hb => hb.elim⟩⟩
    · rw [hget]
      cases hj : ars[l]? with
      | none => exact fun s hs => (by cases hs)
      | some e => exact no_pst (hpl l e hj).1
    · rw [hget]
      cases hj : ars[t]? with
      | none => exact rfl
      | some e =>
        have hlt := lt_of_get hj
        have hx : (vs ++ Array.replicate (fn.ntmps - vs.size) undef).getD t undef = vs[t]'(by omega) := by
          rw [Array.getD_eq_getD_getElem?, Array.getElem?_append_left (by omega), Array.getElem?_eq_getElem (by omega)]; rfl
        dsimp only
        rw [hx]
        exact rw_rv rfl (hv t e _ hj (Array.getElem?_eq_getElem (by omega)))
    · rw [hget, List.getElem?_eq_none (by omega)]; rfl
  refine (h ⟨w, F, fun _ => False⟩).run _ _ w hsat fun e st' a' w' hk hs' => ?_
  obtain ⟨_, G, hr⟩ := hs'
  obtain ⟨x, ts, q1, q2, q3, q4⟩ := ret_ok hE hr hk
  have hpost : ∃ v, (results fn a'.tmps).run P w' = .ok v w' ∧ ∃ (v' : Value) (S : Nat → Prop) (ts : List Nat), Ending.returned v = .returned v' ∧ Below w.heap.size w w' ∧ RT w' (fun b => F b ∨ S b) r v' ts ∧ ts.Nodup ∧ (∀ b ∈ ts, w.heap.size ≤ b ∧ b < w'.heap.size) ∧ ∀ b, S b → w.heap.size ≤ b ∧ b < w'.heap.size ∧ b ∉ ts := by
    refine ⟨x, q1, x, fun b => G.F b ∧ w.heap.size ≤ b, ts, rfl, ⟨hr.fr.os, hr.fr.tape, hr.fr.output, hr.fr.size, fun k hk => hr.fr.block k hk (fun h => h)⟩, rt_mono q2 (fun b hb => ?_), q3, fun b hb => ⟨(q4 b hb).1, (q4 b hb).2.1⟩, fun b hb => ⟨hb.2, hr.F b hb.1, fun hm => (q4 b hm).2.2 hb.1⟩⟩
    rcases hr.f0 b hb with h1 | h1
    · exact .inl h1
    · exact .inr ⟨hb, h1⟩
  cases e <;> first | exact ⟨hr.hd, hpost⟩ | exact hk.elim
end Go.Proofs.Ytjihjjbieeofdaa.T
namespace Go.Proofs.Ytjihjjbieeofdaa.T
set_option linter.unusedSimpArgs false
set_option linter.unusedVariables false
open Go
set_option linter.unusedVariables false
theorem ex_i64 {e : Int} {p : AV → Prop} (h : -9223372036854775808 ≤ e ∧ e ≤ 9223372036854775807) (hp : p (.i .i64 e)) : ∃ v, v = .i .i64 (IntKind.i64.wrap e) ∧ p v := by
  have : IntKind.i64.wrap e = e := by rw [IntKind.wrap_i64]; omega
  rw [this]; exact ⟨_, rfl, hp⟩
/-! cases -/
section
variable {q : Prop} [Decidable q] {A B : Prop} {p : AV → Prop} {m n : Int} {x : Bool}
theorem br_dec (h1 : q → A) (h2 : ¬ q → B) : Br (decide q) A B := ⟨fun h => h1 (of_decide_eq_true h), fun h => h2 (of_decide_eq_false h)⟩
theorem br_not (h : Br x B A) : Br (!x) A B := ⟨fun e => h.f (by simpa using e), fun e => h.t (by simpa using e)⟩
theorem br_t (h : A) : Br true A B := ⟨fun _ => h, fun e => (by cases e)⟩
theorem br_f (h : B) : Br false A B := ⟨fun e => (by cases e), fun _ => h⟩
/-- A guard, a pick. -/
theorem gd_br (h : Br x (p (.b true)) (p (.b false))) : ∃ v, .b x = v ∧ p v := by
  cases x with
  | true => exact ⟨_, rfl, h.t rfl⟩
  | false => exact ⟨_, rfl, h.f rfl⟩
theorem gd_t (h : p (.b true)) : ∃ v, .b true = v ∧ p v := ⟨_, rfl, h⟩
theorem gd_f (h : p (.b false)) : ∃ v, .b false = v ∧ p v := ⟨_, rfl, h⟩
theorem gd_nt (h : p (.b false)) : ∃ v, .b (!true) = v ∧ p v := ⟨_, rfl, h⟩
theorem gd_nf (h : p (.b true)) : ∃ v, .b (!false) = v ∧ p v := ⟨_, rfl, h⟩
theorem br_yes (hq : q) (h : A) : Br (decide q) A B := ⟨fun _ => h, fun e => absurd hq (of_decide_eq_false e)⟩
theorem br_no (hq : ¬ q) (h : B) : Br (decide q) A B := ⟨fun e => absurd (of_decide_eq_true e) hq, fun _ => h⟩
end
/-! lists of numbers -/
def ints (k : IntKind) (l : List Int) : List AV := l.map (AV.i k)
theorem ints_len (k : IntKind) (l : List Int) : (ints k l).length = l.length := by simp [ints]
theorem ex_ints {k : IntKind} {l : List Int} {n : Int} {p : AV → Prop} (h : 0 ≤ n ∧ n < l.length) (hp : p (.i k (l.getD n.toNat 0))) : ∃ v, (ints k l)[n.toNat]? = some v ∧ p v := by
  refine ⟨_, ?_, hp⟩
  unfold ints
  rw [List.getElem?_map, List.getElem?_eq_getElem (by omega)]
  simp [List.getD_eq_getElem?_getD, List.getElem?_eq_getElem (show n.toNat < l.length by omega)]
end Go.Proofs.Ytjihjjbieeofdaa.T
namespace Go.Proofs.Ytjihjjbieeofdaa.T
set_option linter.unusedSimpArgs false
set_option linter.unusedVariables false
open Go
set_option linter.unusedVariables false
def fixK (ms : List Nat) : St → (St → Prop) → Prop
  | [], K => K []
  | (l, v) :: g, K => match ms.any (Nat.beq l) with
    | true => fixK ms g K
    | false => fixK ms g fun g => K ((l, v) :: g)
theorem fixK_eq (ms : List Nat) : ∀ (g : St) (K : St → Prop), ∃ F, fixK ms g K = K F
  | [], K => ⟨[], rfl⟩
  | (l, v) :: g, K => by
    unfold fixK
    split
    · exact fixK_eq ms g K
    · obtain ⟨F, h⟩ := fixK_eq ms g fun g => K ((l, v) :: g)
      exact ⟨(l, v) :: F, h⟩
def appK : St → St → (St → Prop) → Prop
  | [], F, K => K F
  | (l, v) :: g, F, K => appK g F fun g => K ((l, v) :: g)
theorem appK_eq : ∀ (M F : St) (K : St → Prop), appK M F K = K (M ++ F)
  | [], F, K => rfl
  | (l, v) :: g, F, K => by unfold appK; rw [appK_eq g F]; rfl
/-- In a loop the places of ms change (M i: what they hold ahead of a round), all others stay. -/
theorem WP.loopM {P : Program} {W0 : Bs} {N : Nat} {c : Code} {st : St} {K : Exit → St → Prop} {ι : Type} (ms : List Nat) (M : ι → St) (φ : ι → Prop) (μ : ι → Nat) (i : ι)
    (h : fixK ms st fun F => (φ i ∧ appK (M i) F fun I => ptrB I I = true ∧ subK st I) ∧ ∀ i, φ i → appK (M i) F fun I => WP P W0 N c I (thenK (fun st' => ∃ j, (φ j ∧ μ j < μ i) ∧ appK (M j) F fun I => ptrB I I = true ∧ subK st' I) K)) : WP P W0 N (.loop c) st K := by
  obtain ⟨F, hF⟩ := fixK_eq ms st fun F => (φ i ∧ appK (M i) F fun I => ptrB I I = true ∧ subK st I) ∧ ∀ i, φ i → appK (M i) F fun I => WP P W0 N c I (thenK (fun st' => ∃ j, (φ j ∧ μ j < μ i) ∧ appK (M j) F fun I => ptrB I I = true ∧ subK st' I) K)
  rw [hF] at h
  obtain ⟨⟨h1, h2⟩, h3⟩ := h
  rw [appK_eq] at h2
  refine WP.loop (fun i => M i ++ F) φ μ i ⟨h1, ⟨h2.1, h2.2⟩⟩ fun j hj => ?_
  have h4 := h3 j hj
  rw [appK_eq] at h4
  refine h4.mono fun e st' hk => ?_
  cases e with
  | normal =>
    obtain ⟨q, hq, h5⟩ := hk
    rw [appK_eq] at h5
    exact ⟨q, hq, ⟨h5.1, h5.2⟩⟩
  | _ => exact hk
/-- A loop of at most n rounds more, written out. -/
structure WPr (P : Program) (W0 : Bs) (N : Nat) (c : Code) (n : Nat) (st : St) (K : Exit → St → Prop) : Prop where
  run : ∀ (Q : Exit → Act → World → Prop) (a : Act) (w : World), Sat W0 N st a w → (∀ e st' a' w', K e st' → Sat W0 N st' a' w' → Q e a' w') → Code.rounds P c Q n a w
theorem WP.rounds {P : Program} {W0 : Bs} {N : Nat} {c : Code} {st : St} {K : Exit → St → Prop} (n : Nat) (h : WPr P W0 N c n st K) : WP P W0 N (.loop c) st K :=
  ⟨fun Q a w hsat hQ => wp_loop_rounds n (h.run Q a w hsat hQ)⟩
section
variable {A : Prop} {p : AV → Prop} {k k' : IntKind} {l : List Int} {n : Int}
theorem ex_ilen (hp : p (.i k (l.length : Int))) : ∃ v, v = .i k ((ints k' l).length : Int) ∧ p v := by rw [ints_len]; exact ⟨_, rfl, hp⟩
theorem nd_ints (h : 0 ≤ n ∧ n < (l.length : Int)) (hA : A) : (0 ≤ n ∧ n < ((ints k l).length : Int)) ∧ A := by rw [ints_len]; exact ⟨h, hA⟩
abbrev I32s (l : List Int) : Prop := ∀ x ∈ l, -2147483648 ≤ x ∧ x ≤ 2147483647
theorem I32s.get (h : I32s l) {j : Nat} (hj : j < l.length) : -2147483648 ≤ l.getD j 0 ∧ l.getD j 0 ≤ 2147483647 := by
  rw [List.getD_eq_getElem?_getD, List.getElem?_eq_getElem hj]; exact h _ (List.getElem_mem hj)
end
theorem ex_and {p q : AV → Prop} {v : AV} (h : p v) (k : q v) : ∃ v, p v ∧ q v := ⟨v, h, k⟩
theorem ex_eq {x : AV} {p : AV → Prop} (h : p x) : ∃ v, v = x ∧ p v := ⟨x, rfl, h⟩
theorem or_row {sz sz' : Nat} {dp dp' : Bool} {l l' : List AV} {A : Prop} (h1 : sz = sz') (h2 : dp = dp') (h3 : l = l') : (sz = sz' ∧ dp = dp' ∧ l = l') ∨ A := .inl ⟨h1, h2, h3⟩
theorem ints_cut (k : IntKind) (l : List Int) (n m : Nat) : ((ints k l).take n).drop m = ints k ((l.take n).drop m) := by simp [ints, List.map_take, List.map_drop]
theorem reg_and {d : Bool} {N : Nat} {ops : Array Oper} {Ls : List Lg} {A : Prop} (h : regB d N ops Ls = true) (hA : A) : regB d N ops Ls = true ∧ A := ⟨h, hA⟩
/-- A shift to the right. -/
theorem ex_shr {k : IntKind} {x b : Int} {m : Nat} {p : AV → Prop} (s : Nat) (h : min b.toNat m = s) (hp : p (.i k (x / 2 ^ s))) : ∃ v, v = .i k (x.fdiv (2 ^ (min b.toNat m))) ∧ p v := by
  rw [h, Int.fdiv_eq_ediv_of_nonneg _ (Int.le_of_lt (Int.pow_pos (by decide)))]; exact ⟨_, rfl, hp⟩
theorem nodup_and {l : List (Nat × Nat)} {A : Prop} (h : l.Nodup) (hA : A) : l.Nodup ∧ A := ⟨h, hA⟩
theorem ptr_and {g g' : St} {A : Prop} (h : ptrB g g' = true) (hA : A) : ptrB g g' = true ∧ A := ⟨h, hA⟩
/-! lists of anything -/
def gl {α : Type} (f : α → AV) (l : List α) : List AV := l.map f
theorem gl_cut {α : Type} (f : α → AV) (l : List α) (n m : Nat) : ((gl f l).take n).drop m = gl f ((l.take n).drop m) := by simp [gl, List.map_take, List.map_drop]
theorem gl_len {α : Type} (f : α → AV) (l : List α) : (gl f l).length = l.length := List.length_map _
section
variable {α : Type} {f : α → AV} {A : Prop} {p : AV → Prop} {k : IntKind} {l : List α} {n : Int}
theorem ex_glen (hp : p (.i k (l.length : Int))) : ∃ v, v = .i k ((gl f l).length : Int) ∧ p v := by rw [gl_len]; exact ⟨_, rfl, hp⟩
theorem nd_gl (h : 0 ≤ n ∧ n < (l.length : Int)) (hA : A) : (0 ≤ n ∧ n < ((gl f l).length : Int)) ∧ A := by rw [gl_len]; exact ⟨h, hA⟩
end
/-- A row of fixed numbers. -/
abbrev rowA (o : Option Nat) (r : List Int) : AV := .sl o none 1 false (ints .i32 r)
theorem fz_rows (o : Option Nat) (l : List (List Int)) : AV.fzL (gl (rowA o) l) = gl (rowA none) l := by
  rw [AV.fzL_map]; unfold gl; rw [List.map_map]; rfl
/-- Rows of them. -/
abbrev rowsA (o : Option Nat) (r : List (List Int)) : AV := .sl o none 1 true (gl (rowA o) r)
end Go.Proofs.Ytjihjjbieeofdaa.T
namespace Go.Proofs.Ytjihjjbieeofdaa.T
set_option linter.unusedSimpArgs false
set_option linter.unusedVariables false
open Go
set_option linter.unusedVariables false
/-! lists by places -/
def mp {α : Type} (n : Nat) (F : Nat → α) : List α := (List.range n).map F
theorem mp_succ {α : Type} (n : Nat) (F : Nat → α) : mp (n + 1) F = mp n F ++ [F n] := by unfold mp; rw [List.range_succ, List.map_append]; rfl
theorem mp_len {α : Type} (n : Nat) (F : Nat → α) : (mp n F).length = n := by simp [mp]
theorem mp_get {α : Type} {n : Nat} {F : Nat → α} {j : Nat} (h : j < n) (z : α) : (mp n F).getD j z = F j := by
  rw [List.getD_eq_getElem?_getD]; simp [mp, h]
theorem mp_congr {α : Type} {n : Nat} {F G : Nat → α} (h : ∀ j, j < n → F j = G j) : mp n F = mp n G := List.map_congr_left fun j hj => h j (List.mem_range.1 hj)
theorem mp_self (l : List Int) : mp l.length (fun j => l.getD j 0) = l := by
  refine List.ext_getElem (by rw [mp_len]) fun i h1 h2 => ?_
  rw [mp_len] at h1
  have := mp_get (F := fun j => l.getD j 0) h1 0
  rw [List.getD_eq_getElem?_getD, List.getElem?_eq_getElem (by rw [mp_len]; exact h1)] at this
  simpa [List.getD_eq_getElem?_getD, h2] using this
theorem gl_mp {α : Type} {f : α → AV} {n : Nat} {F : Nat → α} {x : α} (h : x = F n) : gl f (mp n F) ++ [f x] = gl f (mp (n + 1) F) := by
  rw [mp_succ, h]; simp [gl]
theorem mp_ext {α : Type} {n m : Nat} {F G : Nat → α} (hn : n = m) (h : ∀ j, j < n → F j = G j) : mp n F = mp m G := by subst hn; exact mp_congr h
theorem list_ext {l m : List Int} (h : l.length = m.length) (h2 : ∀ j, j < l.length → l.getD j 0 = m.getD j 0) : l = m := by
  rw [← mp_self l, ← mp_self m]; exact mp_ext h h2
/-! numbers -/
def sSat (x : Int) : Int := if x > 2147483647 then 2147483647 else if x < -2147483647 then -2147483647 else x
def sRnd (x : Int) : Int := if 0 ≤ x then (x + 32768) / 65536 else -((-x + 32768) / 65536)
def sMul (a b : Int) : Int := sSat (sRnd (a * b))
def sGrow (s x : Int) : Int := if s + x > 9223372036854775807 then 9223372036854775807 else if s + x < -9223372036854775807 then -9223372036854775807 else s + x
/-- A sum that stops at its bounds. -/
def growN (f : Nat → Int) : Nat → Int
  | 0 => 0
  | n + 1 => sGrow (growN f n) (f n)
def sDot (a b : List Int) : Int := sSat (sRnd (growN (fun j => a.getD j 0 * b.getD j 0) a.length))
def sPlus (a b : List Int) : List Int := mp a.length fun j => sSat (a.getD j 0 + b.getD j 0)
def sRise (a : List Int) : List Int := mp a.length fun j => if sSat (a.getD j 0) < 0 then 0 else sSat (a.getD j 0)
/-! matrices: c columns, d the numbers -/
def sRow (c : Nat) (d : List Int) (i : Nat) : List Int := mp c fun j => d.getD (i * c + j) 0
def sApply (r c : Nat) (d v : List Int) : List Int := mp r fun i => sDot (sRow c d i) v
/-! powers of two, roots -/
def steps : List Int := [65536, 64830, 64132, 63441, 62757, 62081, 61413, 60751, 60097, 59449, 58809, 58176, 57549, 56929, 56316, 55709, 55109, 54515, 53928, 53347, 52773, 52204, 51642, 51085, 50535, 49991, 49452, 48920, 48393, 47871, 47356, 46846, 46341, 45842, 45348, 44859, 44376, 43898, 43425, 42958, 42495, 42037, 41584, 41136, 40693, 40255, 39821, 39392, 38968, 38548, 38133, 37722, 37316, 36914, 36516, 36123, 35734, 35349, 34968, 34591, 34219, 33850, 33486, 33125, 32768]
def powV (y : Int) : Int := steps.getD (y / 1024 % 64).toNat 0 - ((steps.getD (y / 1024 % 64).toNat 0 - steps.getD ((y / 1024 % 64).toNat + 1) 0) * (y % 1024) + 512) / 1024
def sPow (x : Int) : Int := if 0 < x then 65536 else powV (-x) / 2 ^ (if 62 < -x / 65536 then 62 else -x / 65536).toNat
/-- The root of a number below 2^64, bit by bit. -/
def rootB (x : Int) : Nat → Int → Int
  | 0, r => r
  | n + 1, r => if (r + 2 ^ n) * (r + 2 ^ n) ≤ x then rootB x n (r + 2 ^ n) else rootB x n r
def sRoot (x : Int) : Int := rootB x 32 0
def sInv (x : Int) : Int := if x ≤ 0 then 2147483647 else sRoot (281474976710656 / x)
/-! soft -/
def sSq (l : List Int) : Int := growN (fun j => l.getD j 0 * l.getD j 0) l.length
def sMean (l : List Int) : Int := sSat (sSq l / l.length / 65536)
def sNorm (l g : List Int) : List Int := mp l.length fun j => sMul (sMul (l.getD j 0) (sInv (sSat (sMean l + 1)))) (g.getD j 0)
/-- The greatest one of the first n. -/
def topN (l : List Int) : Nat → Int
  | 0 => l.getD 0 0
  | n + 1 => if l.getD n 0 > topN l n then l.getD n 0 else topN l n
def sTop (l : List Int) : Int := topN l l.length
def sP (l : List Int) (j : Nat) : Int := sPow (sSat (l.getD j 0 - sTop l))
def sumN (f : Nat → Int) : Nat → Int
  | 0 => 0
  | n + 1 => sumN f n + f n
def sW (l : List Int) : List Int := mp l.length fun j => sP l j * 65536 / sumN (sP l) l.length
/-! rows of rows -/
def sCol (rows : List (List Int)) (j : Nat) : List Int := mp rows.length fun i => (rows.getD i []).getD j 0
def Rows (rows : List (List Int)) : Prop := ∀ r ∈ rows, I32s r
theorem Rows.get {rows : List (List Int)} (h : Rows rows) (i : Nat) : I32s (rows.getD i []) := by
  by_cases hj : i < rows.length
  · rw [List.getD_eq_getElem?_getD, List.getElem?_eq_getElem hj]; exact h _ (List.getElem_mem hj)
  · rw [List.getD_eq_getElem?_getD, List.getElem?_eq_none (by omega)]; exact fun x hx => by cases hx
def sPart (a s : Nat) (r : List Int) : List Int := (r.take (a + s)).drop a
def sScore (q k : List Int) : Int := sMul (sDot q k) (sInv (sSat ((q.length : Int) * 65536)))
/-- How a head that begins at a weighs the rows. -/
def sHw (q : List Int) (ks : List (List Int)) (a s : Nat) : List Int := sW (mp ks.length fun i => sScore (sPart a s q) (sPart a s (ks.getD i [])))
def sAtt (q : List Int) (ks vs : List (List Int)) (s j : Nat) : Int := sDot (sHw q ks (j - j % s) s) (sCol vs j)
def sAttend (q : List Int) (ks vs : List (List Int)) (s : Nat) : List Int := mp q.length (sAtt q ks vs s)
end Go.Proofs.Ytjihjjbieeofdaa.T
namespace Go.Proofs.Ytjihjjbieeofdaa.T
set_option linter.unusedSimpArgs false
set_option linter.unusedVariables false
open Go
def tbl : Tb := [(3, ⟨.int .i64, 1, 8, [.i .i64 0], false⟩),
  (51, ⟨.sl 83, 1, 24, [.sl (some 0) (some true) 1 false []], true⟩),
  (27, ⟨.sl 3, 1, 24, [.sl (some 0) (some true) 1 false []], true⟩),
  (23, ⟨.st [(0, 3), (1, 3), (2, 3), (3, 3), (4, 3)], 5, 40, [.i .i64 0, .i .i64 0, .i .i64 0, .i .i64 0, .i .i64 0], false⟩),
  (28, ⟨.sl 97, 1, 24, [.sl (some 0) (some true) 1 true []], true⟩),
  (97, ⟨.sl 51, 1, 24, [.sl (some 0) (some true) 1 true []], true⟩),
  (2, ⟨.int .i64, 1, 8, [.i .i64 0], false⟩),
  (60, ⟨.st [(0, 3), (1, 3), (2, 51)], 3, 40, [.i .i64 0, .i .i64 0, .sl (some 0) (some true) 1 false []], true⟩),
  (83, ⟨.int .i32, 1, 4, [.i .i32 0], false⟩),
  (40, ⟨.st [(0, 27), (1, 32)], 3, 72, [.sl (some 0) (some true) 1 false [], .sl (some 0) (some true) 1 true [], .sl (some 0) (some true) 1 true []], true⟩),
  (63, ⟨.st [(0, 60), (3, 61), (4, 51), (5, 60)], 8, 128, [.i .i64 0, .i .i64 0, .sl (some 0) (some true) 1 false [], .sl (some 0) (some true) 20 true [], .sl (some 0) (some true) 1 false [], .i .i64 0, .i .i64 0, .sl (some 0) (some true) 1 false []], true⟩),
  (34, ⟨.st [(0, 27), (1, 3), (2, 32)], 4, 80, [.sl (some 0) (some true) 1 false [], .i .i64 0, .sl (some 0) (some true) 1 true [], .sl (some 0) (some true) 1 true []], true⟩),
  (108, ⟨.st [(0, 51), (1, 60), (4, 60), (7, 60), (10, 60), (13, 51), (14, 60), (17, 60)], 20, 288, [.sl (some 0) (some true) 1 false [], .i .i64 0, .i .i64 0, .sl (some 0) (some true) 1 false [], .i .i64 0, .i .i64 0, .sl (some 0) (some true) 1 false [], .i .i64 0, .i .i64 0, .sl (some 0) (some true) 1 false [], .i .i64 0, .i .i64 0, .sl (some 0) (some true) 1 false [], .sl (some 0) (some true) 1 false [], .i .i64 0, .i .i64 0, .sl (some 0) (some true) 1 false [], .i .i64 0, .i .i64 0, .sl (some 0) (some true) 1 false []], true⟩),
  (32, ⟨.st [(0, 28), (1, 28)], 2, 48, [.sl (some 0) (some true) 1 true [], .sl (some 0) (some true) 1 true []], true⟩),
  (76, ⟨.int .u64, 1, 8, [.i .u64 0], false⟩),
  (36, ⟨.int .i64, 1, 8, [.i .i64 0], false⟩),
  (66, ⟨.st [(0, 60), (3, 64), (4, 51), (5, 60)], 8, 128, [.i .i64 0, .i .i64 0, .sl (some 0) (some true) 1 false [], .sl (some 0) (some true) 20 true [], .sl (some 0) (some true) 1 false [], .i .i64 0, .i .i64 0, .sl (some 0) (some true) 1 false []], true⟩),
  (44, ⟨.st [(0, 27), (1, 28), (2, 28)], 3, 72, [.sl (some 0) (some true) 1 false [], .sl (some 0) (some true) 1 true [], .sl (some 0) (some true) 1 true []], true⟩),
  (30, ⟨.st [(0, 27), (1, 3), (2, 28), (3, 28)], 4, 80, [.sl (some 0) (some true) 1 false [], .i .i64 0, .sl (some 0) (some true) 1 true [], .sl (some 0) (some true) 1 true []], true⟩),
  (9, ⟨.str, 1, 16, [.s ⟨#[]⟩], false⟩),
  (109, ⟨.st [(0, 51), (1, 60), (4, 60), (7, 60), (10, 60), (13, 51), (14, 60), (17, 60)], 20, 288, [.sl (some 0) (some true) 1 false [], .i .i64 0, .i .i64 0, .sl (some 0) (some true) 1 false [], .i .i64 0, .i .i64 0, .sl (some 0) (some true) 1 false [], .i .i64 0, .i .i64 0, .sl (some 0) (some true) 1 false [], .i .i64 0, .i .i64 0, .sl (some 0) (some true) 1 false [], .sl (some 0) (some true) 1 false [], .i .i64 0, .i .i64 0, .sl (some 0) (some true) 1 false [], .i .i64 0, .i .i64 0, .sl (some 0) (some true) 1 false []], true⟩),
  (146, ⟨.st [(0, 28), (1, 28), (2, 28)], 3, 72, [.sl (some 0) (some true) 1 true [], .sl (some 0) (some true) 1 true [], .sl (some 0) (some true) 1 true []], true⟩),
  (4, ⟨.bool, 1, 1, [.b false], false⟩),
  (24, ⟨.sl 34, 1, 24, [.sl (some 0) (some true) 4 true []], true⟩),
  (61, ⟨.sl 108, 1, 24, [.sl (some 0) (some true) 20 true []], true⟩),
  (5, ⟨.int .u8, 1, 1, [.i .u8 0], false⟩),
  (64, ⟨.sl 109, 1, 24, [.sl (some 0) (some true) 20 true []], true⟩),
  (128, ⟨.sl 5, 1, 24, [.sl (some 0) (some true) 1 false []], true⟩),
  (115, ⟨.ptr, 1, 8, [.any], true⟩),
  (132, ⟨.int .u32, 1, 4, [.i .u32 0], false⟩),
  (25, ⟨.sl 30, 1, 24, [.sl (some 0) (some true) 4 true []], true⟩),
  (181, ⟨.sl 2, 1, 24, [.sl (some 0) (some true) 1 false []], true⟩),
  (96, ⟨.sl 28, 1, 24, [.sl (some 0) (some true) 1 true []], true⟩),
  (117, ⟨.st [(0, 76)], 1, 8, [.i .u64 0], false⟩),
  (121, ⟨.sl 120, 1, 24, [.sl (some 0) (some true) 1 true []], true⟩),
  (112, ⟨.sl 60, 1, 24, [.sl (some 0) (some true) 3 true []], true⟩),
  (120, ⟨.ptr, 1, 8, [.any], true⟩)]
theorem tbl_ok : tbl.okB Try.prog = true := by kernel_rfl
theorem mixed : Try.prog.follows .mixedOrders = true := by kernel_rfl
end Go.Proofs.Ytjihjjbieeofdaa.T
namespace Go.Proofs.Ytjihjjbieeofdaa.T
set_option linter.unusedSimpArgs false
set_option linter.unusedVariables false
open Go
set_option linter.unusedVariables false
set_option maxHeartbeats 2000000
end Go.Proofs.Ytjihjjbieeofdaa.T

