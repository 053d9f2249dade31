/- What functions of the program come to, on trees. No condition but those that the theorems name. -/
import Derived.WalkKit
import Derived.Below
namespace Go.Proofs.Ytjihjjbieeofdaa.T
set_option linter.unusedSimpArgs false
set_option linter.unusedVariables false
open Go
set_option linter.unusedVariables false
set_option linter.unusedSimpArgs false
/-- A value as a tree. sl: own: none: read only; some s: the one holder of its block, s tells the operation that made it; nil: known to be nil or not; sz: cells an element; dp: elements hold slices. pv, ea: the slice at a place, an element's address there. fa: the address of cells that nobody writes. -/
inductive AV where
  | any
  | b (x : Bool)
  | i (k : IntKind) (n : Int)
  | s (x : ByteArray)
  | sl (own : Option Nat) (nil : Option Bool) (sz : Nat) (dp : Bool) (l : List AV)
  | agg (l : List AV)
  | tup (l : List AV)
  | ptr (n off : Nat)
  | pv (r : Nat) (ix ss : List Nat)
  | ea (r : Nat) (ix ss : List Nat) (idx sub : Nat)
  | fa (l : List AV)
  | psl (l : List (Nat × Nat))
  | pfa (n off : Nat)
  deriving Inhabited
mutual
/-- Read only from now on. -/
def AV.fz : AV → AV
  | .sl _ nil sz true l => .sl none nil sz true (AV.fzL l)
  | .sl _ nil sz false l => .sl none nil sz false l
  | .agg l => .agg (AV.fzL l)
  | .any => .any
  | .b x => .b x
  | .i k n => .i k n
  | .s x => .s x
  | .tup l => .tup l
  | .ptr n o => .ptr n o
  | .pv r ix ss => .pv r ix ss
  | .ea r ix ss d u => .ea r ix ss d u
  | .fa l => .fa l
  | .psl l => .psl l
  | .pfa n o => .pfa n o
def AV.fzL : List AV → List AV
  | [] => []
  | v :: l => v.fz :: AV.fzL l
end
/-- An answer, read only from now on. -/
def AV.fzT : AV → AV
  | .tup l => .tup (AV.fzL l)
  | v => v.fz
theorem AV.fzL_map : ∀ l : List AV, AV.fzL l = l.map AV.fz
  | [] => rfl
  | v :: l => by rw [AV.fzL, AV.fzL_map l]; rfl
/-- Stamped anew. -/
def AV.st1 (k : Nat) : AV → AV
  | .sl (some _) nil sz dp l => .sl (some k) nil sz dp l
  | v => v
def AV.stl (k : Nat) : List AV → List AV
  | [] => []
  | v :: l => v.st1 k :: AV.stl k l
def AV.st2 (k : Nat) : AV → AV
  | .agg l => .agg (AV.stl k l)
  | v => v.st1 k
def AV.st2l (k : Nat) : List AV → List AV
  | [] => []
  | v :: l => v.st2 k :: AV.st2l k l
def AV.st (k : Nat) : AV → AV
  | .tup l => .tup (AV.st2l k l)
  | v => v.st2 k
/-- Does the one holder of something lie in it (not within slices)? -/
def AV.own1 : AV → Bool
  | .sl (some _) _ _ _ _ => true
  | _ => false
def AV.own2 : AV → Bool
  | .agg l => l.any AV.own1
  | v => v.own1
def AV.own : AV → Bool
  | .tup l => l.any AV.own2
  | v => v.own2
/-- No slice that others may hold. -/
def AV.all1 : AV → Bool
  | .sl (some _) _ _ dp _ => !dp
  | .b _ | .i _ _ | .s _ => true
  | _ => false
def AV.all2 : AV → Bool
  | .agg l => l.all AV.all1
  | v => v.all1
def AV.allown : AV → Bool
  | .tup l => l.all AV.all2
  | v => v.all2
/-- Boxes that it tells of. -/
def AV.pbx : AV → List Nat
  | .ptr n _ => [n]
  | .psl l => l.map (·.1)
  | .pfa n _ => [n]
  | _ => []
/-- Stamps that it tells of places. -/
def AV.pst1 : AV → List Nat
  | .pv _ _ ss => ss
  | .ea _ _ ss _ _ => ss
  | _ => []
def AV.pst : AV → List Nat
  | .agg l => l.flatMap AV.pst1
  | v => v.pst1
/-- What is known: places (slots below 1000; cell c of the box made at slot n: 1000 * (n + 1) + c; 1000 * (n + 1) + 999: is there such a box?). -/
abbrev St := List (Nat × AV)
def St.get : St → Nat → AV
  | [], _ => .any
  | (l, v) :: g, k => if l = k then v else St.get g k
def St.set : St → Nat → AV → St
  | [], k, x => [(k, x)]
  | (l, v) :: g, k, x => if l = k then (l, x) :: g else (l, v) :: St.set g k x
theorem St.get_set : ∀ (g : St) (k : Nat) (x : AV) (j : Nat), (g.set k x).get j = if j = k then x else g.get j
  | [], k, x, j => by
    by_cases h : j = k
    · subst h; simp [St.set, St.get]
    · have h' : ¬ k = j := fun e => h e.symm
      simp [St.set, St.get, h, h']
  | (l, v) :: g, k, x, j => by
    by_cases h : l = k
    · subst h
      by_cases hj : j = l
      · subst hj; simp [St.set, St.get]
      · have h' : ¬ l = j := fun e => hj e.symm
        simp [St.set, St.get, hj, h']
    · by_cases hj : l = j
      · subst hj; simp [St.set, St.get, h]
      · simp [St.set, St.get, h, hj, St.get_set g k x j]
def loc (n c : Nat) : Nat := 1000 * (n + 1) + c
/-! ### Types -/
inductive TK where
  | sl (e : Nat)
  | st (fs : List (Nat × Nat))
  | int (k : IntKind)
  | bool
  | str
  | ptr
structure TI where
  k : TK
  size : Nat
  bytes : Nat
  zero : List AV
  dp : Bool
abbrev Tb := List (Nat × TI)
def Tb.get : Tb → Nat → Option TI
  | [], _ => none
  | (t, i) :: tb, k => if t = k then some i else Tb.get tb k
def TI.isAgg (i : TI) : Bool := match i.k with
  | .st _ => true
  | _ => false
def TK.okB : TK → TypeDesc → Bool
  | .sl e, .slice e' => e == e'
  | .st fs, .struct fields => fields.toList.map (fun f => (f.offset, f.type)) == fs
  | .int k, .int k' => k == k'
  | .bool, .bool => true
  | .str, .string => true
  | .ptr, .pointer _ => true
  | _, _ => false
def zeroB : AV → Value → Bool
  | .b x, .bool y => x == y
  | .i k n, .int k' n' => k == k' && n == n'
  | .s x, .string y => x.size == 0 && y.size == 0
  | .sl _ (some true) _ _ [], .slice none 0 0 => true
  | .any, .pointer none => true
  | _, _ => false
def zerosB : List AV → List Value → Bool
  | [], [] => true
  | a :: ars, v :: vs => zeroB a v && zerosB ars vs
  | _, _ => false
def TI.okB (P : Program) (t : Nat) (i : TI) : Bool :=
  match P.info? t, P.underlying t with
  | some info, some d => info.size == i.size && info.bytes == i.bytes && i.k.okB d && (match info.zero with
    | some z => zerosB i.zero z.cells.toList && z.cells.size == i.size && (match i.k, z with
      | .st _, .agg _ => true
      | .st _, _ => false
      | _, .agg _ => false
      | _, _ => true)
    | none => false) && decide (0 < i.size)
  | _, _ => false
def Tb.okB (P : Program) (tb : Tb) : Bool := tb.all fun p => p.2.okB P p.1
/-! ### Programs of operations -/
inductive Pg (α : Type) where
  | ret (a : α)
  | rd (l : Nat) (k : AV → Pg α)
  | wr (l : Nat) (v : AV) (k : Pg α)
  | need (c : Prop) (k : Pg α)
  | ex (p : AV → Prop) (k : AV → Pg α)
  | call (f : Nat) (args : List AV) (k : AV → Pg α)
  | fc (l : List AV) (k : List AV → Pg α)
  | fail
def Pg.bind {α β : Type} : Pg α → (α → Pg β) → Pg β
  | .ret a, f => f a
  | .rd l k, f => .rd l fun v => (k v).bind f
  | .wr l v k, f => .wr l v (k.bind f)
  | .need c k, f => .need c (k.bind f)
  | .ex p k, f => .ex p fun v => (k v).bind f
  | .call g ars k, f => .call g ars fun v => (k v).bind f
  | .fc l k, f => .fc l fun v => (k v).bind f
  | .fail, _ => .fail
theorem Pg.bind_assoc {α β γ : Type} (p : Pg α) (f : α → Pg β) (k : β → Pg γ) : (p.bind f).bind k = p.bind fun x => (f x).bind k := by
  induction p with
  | ret a => rfl
  | rd l q ih => simp only [Pg.bind, ih]
  | wr l v q ih => simp only [Pg.bind, ih]
  | need c q ih => simp only [Pg.bind, ih]
  | ex c q ih => simp only [Pg.bind, ih]
  | call g ars q ih => simp only [Pg.bind, ih]
  | fc l q ih => simp only [Pg.bind, ih]
  | fail => rfl
/-- What has been read, written; the stamps of places that were written. -/
structure Lg where
  r : List Nat
  w : List Nat
  s : List Nat
section
variable (Imp : Nat → List AV → AV → Prop)
def Pg.wp {α : Type} : Pg α → St → Lg → (α → St → Lg → Prop) → Prop
  | .ret a, g, L, K => K a g L
  | .rd l k, g, L, K => (k (g.get l)).wp g ⟨l :: L.r, L.w, L.s⟩ K
  | .wr l v k, g, L, K => k.wp (g.set l v) ⟨L.r, l :: L.w, v.pst ++ L.s⟩ K
  | .need c k, g, L, K => c ∧ k.wp g L K
  | .ex p k, g, L, K => ∃ v, p v ∧ (k v).wp g L K
  | .call f ars k, g, L, K => ∃ r, Imp f ars r ∧ (k r).wp g L K
  | .fc l k, g, L, K => (k l).wp g L K
  | .fail, _, _, _ => False
/-- A run, by what it reads and writes. -/
inductive Runs {α : Type} : Pg α → (Nat → AV) → α → (Nat → AV) → Lg → Prop
  | ret (a : α) (g : Nat → AV) : Runs (.ret a) g a g ⟨[], [], []⟩
  | rd {l : Nat} {k : AV → Pg α} {g : Nat → AV} {a : α} {g' : Nat → AV} {L : Lg} (h : Runs (k (g l)) g a g' L) : Runs (.rd l k) g a g' ⟨l :: L.r, L.w, L.s⟩
  | wr {l : Nat} {v : AV} {k : Pg α} {g : Nat → AV} {a : α} {g' : Nat → AV} {L : Lg} (h : Runs k (fun j => if j = l then v else g j) a g' L) : Runs (.wr l v k) g a g' ⟨L.r, l :: L.w, v.pst ++ L.s⟩
  | need {c : Prop} {k : Pg α} {g : Nat → AV} {a : α} {g' : Nat → AV} {L : Lg} (hc : c) (h : Runs k g a g' L) : Runs (.need c k) g a g' L
  | ex {p : AV → Prop} {k : AV → Pg α} {g : Nat → AV} {a : α} {g' : Nat → AV} {L : Lg} (v : AV) (hv : p v) (h : Runs (k v) g a g' L) : Runs (.ex p k) g a g' L
  | call {f : Nat} {ars : List AV} {k : AV → Pg α} {g : Nat → AV} {a : α} {g' : Nat → AV} {L : Lg} (r : AV) (hr : Imp f ars r) (h : Runs (k r) g a g' L) : Runs (.call f ars k) g a g' L
  | fc {l : List AV} {k : List AV → Pg α} {g : Nat → AV} {a : α} {g' : Nat → AV} {L : Lg} (h : Runs (k l) g a g' L) : Runs (.fc l k) g a g' L
end
section
variable {Imp : Nat → List AV → AV → Prop}
theorem Pg.wp_runs {α : Type} : ∀ (p : Pg α) (g : St) (L : Lg) (K : α → St → Lg → Prop), p.wp Imp g L K → ∃ a g' L', Runs Imp p g.get a g'.get L' ∧ (∃ L2 : Lg, K a g' L2 ∧ (∀ x, x ∈ L2.r ↔ x ∈ L'.r ∨ x ∈ L.r) ∧ (∀ x, x ∈ L2.w ↔ x ∈ L'.w ∨ x ∈ L.w) ∧ (∀ x, x ∈ L2.s ↔ x ∈ L'.s ∨ x ∈ L.s))
  | .ret a, g, L, K, h => ⟨a, g, ⟨[], [], []⟩, .ret a _, L, h, by simp, by simp, by simp⟩
  | .rd l k, g, L, K, h => by
    obtain ⟨a, g', L', hr, L2, hK, h1, h2, h3⟩ := Pg.wp_runs (k (g.get l)) g _ K h
    refine ⟨a, g', _, .rd hr, L2, hK, fun x => ?_, h2, h3⟩
    rw [h1]; simp only [List.mem_cons]
    constructor
    · rintro (h | h | h) <;> simp [h]
    · rintro ((h | h) | h) <;> simp [h]
  | .wr l v k, g, L, K, h => by
    obtain ⟨a, g', L', hr, L2, hK, h1, h2, h3⟩ := Pg.wp_runs k (g.set l v) _ K h
    rw [show (g.set l v).get = fun j => if j = l then v else g.get j from funext fun j => St.get_set g l v j] at hr
    refine ⟨a, g', _, .wr hr, L2, hK, h1, fun x => ?_, fun x => ?_⟩
    · rw [h2]; simp only [List.mem_cons]
      constructor
      · rintro (h | h | h) <;> simp [h]
      · rintro ((h | h) | h) <;> simp [h]
    · rw [h3]; simp only [List.mem_append]
      constructor
      · rintro (h | h | h) <;> simp [h]
      · rintro ((h | h) | h) <;> simp [h]
  | .need c k, g, L, K, h => by
    obtain ⟨a, g', L', hr, hK⟩ := Pg.wp_runs k g L K h.2
    exact ⟨a, g', L', .need h.1 hr, hK⟩
  | .ex p k, g, L, K, h => by
    obtain ⟨v, hv, h⟩ := h
    obtain ⟨a, g', L', hr, hK⟩ := Pg.wp_runs (k v) g L K h
    exact ⟨a, g', L', .ex v hv hr, hK⟩
  | .call f ars k, g, L, K, h => by
    obtain ⟨r, hv, h⟩ := h
    obtain ⟨a, g', L', hr, hK⟩ := Pg.wp_runs (k r) g L K h
    exact ⟨a, g', L', .call r hv hr, hK⟩
  | .fc l k, g, L, K, h => by
    obtain ⟨a, g', L', hr, hK⟩ := Pg.wp_runs (k l) g L K h
    exact ⟨a, g', L', .fc hr, hK⟩
/-- What isn't written stays. -/
theorem Runs.off {α : Type} {p : Pg α} {g g' : Nat → AV} {a : α} {L : Lg} (h : Runs Imp p g a g' L) : ∀ l, l ∉ L.w → g' l = g l := by
  induction h with
  | ret => exact fun _ _ => rfl
  | rd _ ih => exact ih
  | wr _ ih =>
    intro j hj
    simp only [List.mem_cons, not_or] at hj
    exact (ih j hj.2).trans (if_neg hj.1)
  | need _ _ ih => exact ih
  | ex _ _ _ ih => exact ih
  | call _ _ _ ih => exact ih
  | fc _ ih => exact ih
/-- Only what is read matters. -/
theorem Runs.here {α : Type} {p : Pg α} {g g' : Nat → AV} {a : α} {L : Lg} (h : Runs Imp p g a g' L) : ∀ h : Nat → AV, (∀ l ∈ L.r, h l = g l) → Runs Imp p h a (fun l => if l ∈ L.w then g' l else h l) L := by
  induction h with
  | ret a g => intro h _; exact (by simpa using Runs.ret a h)
  | @rd l k g a g' L _ ih =>
    intro h hh
    have e : h l = g l := hh l List.mem_cons_self
    refine .rd ?_
    rw [e]
    exact ih h (fun j hj => hh j (List.mem_cons_of_mem _ hj))
  | @wr l v k g a g' L hr ih =>
    intro h hh
    have h1 := ih (fun j => if j = l then v else h j) (fun j hj => by
      by_cases e : j = l
      · simp [e]
      · simp only [e, if_false]; exact hh j hj)
    have e2 : (fun j => if j ∈ L.w then g' j else if j = l then v else h j) = fun j => if j ∈ l :: L.w then g' j else h j := by
      funext j
      by_cases e : j ∈ L.w
      · simp [e]
      · by_cases e3 : j = l
        · subst e3
          have := hr.off j e
          simp [e, this]
        · simp [e, e3]
    rw [e2] at h1
    exact .wr h1
  | need hc _ ih => intro h hh; exact .need hc (ih h hh)
  | ex v hv _ ih => intro h hh; exact .ex v hv (ih h hh)
  | call r hr _ ih => intro h hh; exact .call r hr (ih h hh)
  | fc _ ih => intro h hh; exact .fc (ih h hh)
/-- What is written tells its stamps. -/
theorem Runs.stamps {α : Type} {p : Pg α} {g g' : Nat → AV} {a : α} {L : Lg} (h : Runs Imp p g a g' L) : ∀ l, l ∈ L.w → ∀ x ∈ (g' l).pst, x ∈ L.s := by
  induction h with
  | ret => intro l hl; cases hl
  | rd _ ih => exact ih
  | @wr l v k g a g' L hr ih =>
    intro j hj x hx
    by_cases e : j ∈ L.w
    · exact List.mem_append_right _ (ih j e x hx)
    · have := hr.off j e
      have e2 : j = l := by simpa [e] using hj
      rw [this] at hx
      simp only [e2, if_true] at hx
      exact List.mem_append_left _ hx
  | need _ _ ih => exact ih
  | ex _ _ _ ih => exact ih
  | call _ _ _ ih => exact ih
  | fc _ ih => exact ih
theorem Runs.bind_inv {α β : Type} {p : Pg α} {f : α → Pg β} : ∀ {g g' : Nat → AV} {b : β} {L : Lg}, Runs Imp (p.bind f) g b g' L → ∃ a h L1 L2, Runs Imp p g a h L1 ∧ Runs Imp (f a) h b g' L2 ∧ L.w = L1.w ++ L2.w := by
  induction p with
  | ret a => intro g g' b L h; exact ⟨a, g, _, L, .ret a g, h, rfl⟩
  | rd l k ih =>
    intro g g' b L h
    cases h with
    | rd h =>
      obtain ⟨a, h1, L1, L2, r1, r2, e⟩ := ih _ h
      exact ⟨a, h1, _, L2, .rd r1, r2, e⟩
  | wr l v k ih =>
    intro g g' b L h
    cases h with
    | wr h =>
      obtain ⟨a, h1, L1, L2, r1, r2, e⟩ := ih h
      exact ⟨a, h1, _, L2, .wr r1, r2, by simp [e]⟩
  | need c k ih =>
    intro g g' b L h
    cases h with
    | need hc h =>
      obtain ⟨a, h1, L1, L2, r1, r2, e⟩ := ih h
      exact ⟨a, h1, _, L2, .need hc r1, r2, e⟩
  | ex p k ih =>
    intro g g' b L h
    cases h with
    | ex v hv h =>
      obtain ⟨a, h1, L1, L2, r1, r2, e⟩ := ih _ h
      exact ⟨a, h1, _, L2, .ex v hv r1, r2, e⟩
  | call f' ars k ih =>
    intro g g' b L h
    cases h with
    | call r hr h =>
      obtain ⟨a, h1, L1, L2, r1, r2, e⟩ := ih _ h
      exact ⟨a, h1, _, L2, .call r hr r1, r2, e⟩
  | fc l k ih =>
    intro g g' b L h
    cases h with
    | fc h =>
      obtain ⟨a, h1, L1, L2, r1, r2, e⟩ := ih _ h
      exact ⟨a, h1, _, L2, .fc r1, r2, e⟩
  | fail => intro g g' b L h; cases h
end
end Go.Proofs.Ytjihjjbieeofdaa.T
namespace Go.Proofs.Ytjihjjbieeofdaa.T
set_option linter.unusedSimpArgs false
set_option linter.unusedVariables false
open Go
set_option linter.unusedVariables false
set_option linter.unusedSimpArgs false
/-- frz: destinations whose source may be read on (and is read only from then on); nest: lists that keep their elements' holders; lend: calls whose arguments stay with their holders; keep: what is asked for behind a region. -/
structure Env where
  tb : Tb
  frz : List Nat
  nest : List Nat
  lend : List Nat
  keep : List (Nat × List Nat)
/-- What a cell of memory may hold. -/
def AV.plain1 : AV → Bool
  | .any | .b _ | .i _ _ | .s _ | .sl _ _ _ _ _ | .fa _ => true
  | _ => false
/-- No slice in it. -/
def AV.scal1 : AV → Bool
  | .b _ | .i _ _ | .s _ => true
  | _ => false
def AV.scal : AV → Bool
  | .agg l => l.all AV.scal1
  | v => v.scal1
def AV.cel1 : AV → Bool
  | .pv _ _ _ => true
  | v => v.plain1
def AV.memOk : AV → Bool
  | .agg l => l.all AV.plain1
  | .any => false
  | v => v.plain1
def AV.argOk : AV → Bool
  | .agg l => l.all AV.plain1
  | v => v.plain1
def AV.lentOk (v : AV) : Bool := v.argOk && !v.own2
def ofVal : Value → AV
  | .bool b => .b b
  | .int k n => .i k n
  | .string s => .s s
  | .slice none 0 0 => .sl (some 0) (some true) 0 false []
  | _ => .any
def rdo : Operand → Pg AV
  | .tmp t => .rd t .ret
  | .const v => .ret (ofVal v)
  | _ => .ret .any
/-- The slice at a place below v; rb: v with another slice there. -/
def rsl : AV → List Nat → List Nat → (AV → AV) → Pg (AV × (AV → AV))
  | .sl (some s) nil sz dp l, [], ss, rb => match ss with
    | [s'] => if s = s' then .ret (.sl (some s) nil sz dp l, rb) else .fail
    | _ => .fail
  | .sl (some s) nil sz dp l, i :: is, ss, rb => match ss with
    | s' :: ss' => if s = s' then .ex (fun e => l[i]? = some e) (fun e => rsl e is ss' (fun x => rb (.sl (some s) nil sz dp (l.set i x)))) else .fail
    | [] => .fail
  | _, _, _, _ => .fail
def rslP (r : Nat) (ix ss : List Nat) : Pg (AV × (AV → AV)) := .rd r fun v => rsl v ix ss (fun x => x)
/-- What is there, to be looked at. -/
def look : AV → Pg AV
  | .pv r ix ss => (rslP r ix ss).bind fun p => .ret p.1
  | v => .ret v
/-- A cell is taken: k: the operation; fp: a place is frozen (and read on), else it is left empty. -/
def tkc (k : Nat) (fd fp : Bool) : AV → Pg AV
  | .pv r ix ss => (rslP r ix ss).bind fun p => if fp then .wr r (p.2 p.1.fz) (.ret p.1.fz) else .wr r (p.2 .any) (.ret (p.1.st1 (k + 1)))
  | v => .fc [if fd then v.fz else v.st1 (k + 1)] fun l => .ret (l.headD .any)
def tkl (k : Nat) (fd fp : Bool) : List AV → Pg (List AV)
  | [] => .ret []
  | v :: l => (tkc k fd fp v).bind fun x => (tkl k fd fp l).bind fun xs => .ret (x :: xs)
/-- The same with what is done next: a list of n cells costs n steps. -/
def tklK {α : Type} (k : Nat) (fd fp : Bool) : List AV → (List AV → Pg α) → Pg α
  | [], K => K []
  | v :: l, K => (tkc k fd fp v).bind fun x => tklK k fd fp l fun xs => K (x :: xs)
theorem tklK_eq {α : Type} (k : Nat) (fd fp : Bool) : ∀ (l : List AV) (K : List AV → Pg α), tklK k fd fp l K = (tkl k fd fp l).bind K
  | [], K => rfl
  | v :: l, K => by
    unfold tklK tkl
    simp only [tklK_eq k fd fp l, Pg.bind, Pg.bind_assoc]
/-- The value v of slot t is taken. -/
def tkv (k : Nat) (fd fp : Bool) (t : Nat) (v : AV) : Pg AV :=
  match v with
  | .agg l => if l.any AV.own1 then (if l.all AV.plain1 then (if fd then .wr t (AV.agg l).fz (.ret (AV.agg l).fz) else .wr t .any (.ret (.agg (AV.stl (k + 1) l)))) else .fail) else if l.all AV.plain1 then (if fd then .fc [(AV.agg l).fz] fun x => .ret (x.headD .any) else .ret (.agg l)) else if l.all AV.cel1 then tklK k fd fp l fun xs => .ret (.agg xs) else .fail
  | .tup l => if (AV.tup l).own then .wr t .any (.ret ((AV.tup l).st (k + 1))) else .ret (.tup l)
  | .sl (some s) nil sz dp l => if fd then .wr t (AV.sl (some s) nil sz dp l).fz (.ret (AV.sl (some s) nil sz dp l).fz) else .wr t .any (.ret (.sl (some (k + 1)) nil sz dp l))
  | v => tkc k fd fp v
def take (k : Nat) (fd fp : Bool) : Operand → Pg AV
  | .tmp t => .rd t fun v => tkv k fd fp t v
  | .const c => .ret (if fd then (ofVal c).fz else (ofVal c).st1 (k + 1))
  | _ => .fail
/-- As an argument: read only. -/
def arg (x : Operand) : Pg AV := (rdo x).bind fun v => (look v).bind fun x => if x.argOk then .ret x.fz else .fail
def args : List Operand → Pg (List AV)
  | [] => .ret []
  | x :: l => (arg x).bind fun v => (args l).bind fun vs => .ret (v :: vs)
/-- Arguments that are read only from now on. -/
def takes (k : Nat) : List Operand → Pg (List AV)
  | [] => .ret []
  | x :: l => (take k true true x).bind fun v => (takes k l).bind fun vs => .ret (v :: vs)
def wrd (d : Option Tmp) (v : AV) : Pg Unit := match d with
  | some d => .wr d v (.ret ())
  | none => .ret ()
def put (d : Nat) (v : AV) : Pg Unit := .wr d v (.ret ())
/-- The value is asked for. -/
def pex (d : Nat) (v : AV) : Pg Unit := .ex (fun u => u = v) fun u => .wr d u (.ret ())
/-- Numbers. -/
def binI (op : BinOp) (k : IntKind) (a b : Int) : Option (Prop × AV) :=
  match op with
  | .add => some (True, .i k (k.wrap (a + b)))
  | .sub => some (True, .i k (k.wrap (a - b)))
  | .mul => some (True, .i k (k.wrap (a * b)))
  | .quo => some (b ≠ 0, .i k (k.wrap (a.tdiv b)))
  | .rem => some (b ≠ 0, .i k (a.tmod b))
  | .and => some (True, .i k (k.wrap (BitVec.ofInt k.bits a &&& BitVec.ofInt k.bits b).toNat))
  | .or => some (True, .i k (k.wrap (BitVec.ofInt k.bits a ||| BitVec.ofInt k.bits b).toNat))
  | .xor => some (True, .i k (k.wrap (BitVec.ofInt k.bits a ^^^ BitVec.ofInt k.bits b).toNat))
  | .andNot => some (True, .i k (k.wrap (BitVec.ofInt k.bits a &&& ~~~ BitVec.ofInt k.bits b).toNat))
  | .eql => some (True, .b (a == b))
  | .neq => some (True, .b (a != b))
  | .lss => some (True, .b (decide (a < b)))
  | .leq => some (True, .b (decide (a ≤ b)))
  | .gtr => some (True, .b (decide (a > b)))
  | .geq => some (True, .b (decide (a ≥ b)))
  | _ => none
def binS (op : BinOp) (x y : ByteArray) : Option (Prop × AV) :=
  match op with
  | .add => some (x.size + y.size ≤ 140737488355328, .s (x ++ y))
  | .eql => some (True, .b (x.toList == y.toList))
  | .neq => some (True, .b (!(x.toList == y.toList)))
  | _ => none
def bin (op : BinOp) (x y : AV) : Option (Prop × AV) :=
  match x, y with
  | .i k a, .i k' b => match op with
    | .shl => some (0 ≤ b, .i k (k.wrap (a * 2 ^ (min b.toNat k.bits))))
    | .shr => some (0 ≤ b, .i k (a.fdiv (2 ^ (min b.toNat k.bits))))
    | op => if k = k' then binI op k a b else none
  | .s a, .s b => binS op a b
  | _, _ => none
def un (op : UnOp) (x : AV) : Option AV :=
  match op, x with
  | .neg, .i k n => some (.i k (k.wrap (0 - n)))
  | .xor, .i k n => some (.i k (k.wrap (BitVec.ofInt k.bits (if k.signed then -1 else k.max) ^^^ BitVec.ofInt k.bits n).toNat))
  | .not, .b x => some (.b (!x))
  | _, _ => none
def nilA (n : Option Bool) (m : Nat) : Option Bool := if m = 0 then n else some false
def setAll : List AV → List (Nat × AV) → List AV
  | l, [] => l
  | l, (i, v) :: ps => setAll (l.set i v) ps
/-- Cells from a place on are written over. -/
def splice (cs : List AV) (off : Nat) (vs : List AV) : List AV := cs.take off ++ vs ++ cs.drop (off + vs.length)
def AV.cellsL : AV → List AV
  | .agg l => l
  | v => [v]
def parts (k : Nat) (fd fp : Bool) : List (Nat × Operand) → Pg (List (Nat × AV))
  | [] => .ret []
  | (i, x) :: ps => (take k fd fp x).bind fun v => (parts k fd fp ps).bind fun vs => .ret ((i, v) :: vs)
def partsK (k : Nat) (fd fp : Bool) : List (Nat × Operand) → (List (Nat × AV) → Pg Unit) → Pg Unit
  | [], K => K []
  | (i, x) :: ps, K => (take k fd fp x).bind fun v => partsK k fd fp ps fun vs => K ((i, v) :: vs)
theorem partsK_eq (k : Nat) (fd fp : Bool) : ∀ (ps : List (Nat × Operand)) (K : List (Nat × AV) → Pg Unit), partsK k fd fp ps K = (parts k fd fp ps).bind K
  | [], K => rfl
  | (i, x) :: ps, K => by
    unfold partsK parts
    simp only [partsK_eq k fd fp ps, Pg.bind, Pg.bind_assoc]
/-- fs: the fields' places: offset, size. -/
def fillF (fs : List (Nat × Nat)) : List AV → List (Nat × AV) → Option (List AV)
  | cs, [] => some cs
  | cs, (i, v) :: ps => match fs[i]? with
    | some (off, z) => if v.cellsL.length = z ∧ off + z ≤ cs.length ∧ v.memOk = true then fillF fs (splice cs off v.cellsL) ps else none
    | none => none
def placesOf (tb : Tb) : List (Nat × Nat) → Option (List (Nat × Nat))
  | [] => some []
  | (off, t) :: fs => match tb.get t with
    | some i => match placesOf tb fs with
      | some ps => some ((off, i.size) :: ps)
      | none => none
    | none => none
/-- A cell of a box as it is read: what has a holder there is told by its place. -/
def pvOf (l : Nat) : AV → AV
  | .sl (some s) _ _ _ _ => .pv l [] [s]
  | v => v
def rdl (n off : Nat) : Nat → Nat → Pg (List AV)
  | _, 0 => .ret []
  | j, z + 1 => .rd (loc n (off + j)) fun v => (rdl n off (j + 1) z).bind fun vs => .ret (pvOf (loc n (off + j)) v :: vs)
def rdlK (n off : Nat) : Nat → Nat → (List AV → Pg Unit) → Pg Unit
  | _, 0, K => K []
  | j, z + 1, K => .rd (loc n (off + j)) fun v => rdlK n off (j + 1) z fun vs => K (pvOf (loc n (off + j)) v :: vs)
theorem rdlK_eq (n off : Nat) : ∀ (z j : Nat) (K : List AV → Pg Unit), rdlK n off j z K = (rdl n off j z).bind K
  | 0, j, K => rfl
  | z + 1, j, K => by
    unfold rdlK rdl
    simp only [rdlK_eq n off z, Pg.bind, Pg.bind_assoc]
def wrl (n off : Nat) : Nat → List AV → Pg Unit
  | _, [] => .ret ()
  | j, v :: vs => .wr (loc n (off + j)) v (wrl n off (j + 1) vs)
def zeroE (i : TI) : AV := if i.isAgg then .agg i.zero else i.zero.headD .any
/-- A new box of the cells cs at slot d. -/
def newbx (d : Nat) (cs : List AV) : Pg Unit := .rd (loc d 999) fun v => match v with
  | .any => if cs.length ≤ 900 && cs.all AV.plain1 then (wrl d 0 0 cs).bind fun _ => .wr (loc d 999) (.i .i64 cs.length) (.wr d (.ptr d 0) (.ret ())) else .fail
  | _ => .fail
/-- The elements that are appended (z: cells an element). -/
def appL (E : Env) (d z : Nat) (dp : Bool) (x : Operand) : Pg (List AV) :=
  (rdo x).bind fun v => match v with
    | .sl none _ sz dp' l => if (sz = z ∧ (dp || !dp') = true) ∨ l = [] then .ret l else .fail
    | .sl (some s) nil sz dp' l => if sz = z ∨ nil = some true then (if dp then (match x with
      | .tmp t => if E.nest.contains d then Pg.wr t .any (.ret l) else Pg.wr t (AV.sl (some s) nil sz dp' l).fz (.ret (if dp' then AV.fzL l else l))
      | .const _ => .ret []
      | _ => .fail) else (if dp' then .fail else .ret l)) else .fail
    | .pv r ix ss => (rslP r ix ss).bind fun p => match p.1 with
      | .sl _ nil sz dp' l => if sz = z ∨ nil = some true then (if dp then Pg.wr r (p.2 p.1.fz) (.ret (if dp' then AV.fzL l else l)) else (if dp' then .fail else .ret l)) else .fail
      | _ => .fail
    | _ => .fail
/-- What is appended to. -/
def appS (k : Nat) : Operand → Pg AV
  | .tmp t => .rd t fun v => match v with
    | .sl none (some true) _ _ [] => .ret (.sl (some 0) (some true) 0 false [])
    | .sl none _ _ _ _ => .fail
    | v => tkv k false false t v
  | .const (.slice none 0 0) => .ret (.sl (some 0) (some true) 0 false [])
  | _ => .fail
def appR (d k : Nat) (i : TI) (c : AV) (lx : List AV) : Pg Unit := match c with
  | .sl (some _) nil sz dp l => .need ((sz = i.size ∧ dp = i.dp) ∨ nil = some true) (.need ((l.length + lx.length) * i.bytes ≤ 70368744177664 ∧ l.length + lx.length ≤ 70368744177664) (put d (.sl (some (k + 1)) (nilA nil lx.length) i.size i.dp (l ++ lx))))
  | _ => .fail
def elemOf (E : Env) (t : Nat) : Option TI := match E.tb.get t with
  | some i => match i.k with
    | .sl e => E.tb.get e
    | _ => none
  | none => none
def fieldOf (E : Env) (t f : Nat) : Option (Nat × Nat) := match E.tb.get t with
  | some i => match i.k with
    | .st fs => fs[f]?
    | _ => none
  | none => none
def optI : Option Operand → Int → Pg Int
  | none, n => .ret n
  | some x, _ => (rdo x).bind fun v => match v with
    | .i _ n => .ret n
    | _ => .fail
def moveP (E : Env) (k d : Nat) : Operand → Pg Unit
  | .tmp t => .rd t fun v => match v with
    | .sl (some s) nil sz dp l => if E.frz.contains d then Pg.wr t (AV.sl (some s) nil sz dp l).fz (put d (AV.sl (some s) nil sz dp l).fz) else put d (.pv t [] [s])
    | .agg l => if l.any AV.own1 then (tkv k false false t (.agg l)).bind fun v => put d v else put d (.agg l)
    | .tup l => (tkv k false false t (.tup l)).bind fun v => put d v
    | v => put d v
  | .const c => put d ((ofVal c).st1 (k + 1))
  | _ => .fail
def pickP (d : Nat) (c a b : AV) : Pg Unit := match c with
  | .b z => .ex (fun u => .b z = u) fun u => match u with
    | .b true => (match a with
      | .b y => put d (.b y)
      | _ => .fail)
    | .b false => (match b with
      | .b y => put d (.b y)
      | _ => .fail)
    | _ => .fail
  | _ => .fail
def buildP (k d : Nat) (fs : List (Nat × Nat)) (z : List AV) (vs : List (Nat × AV)) : Pg Unit := match fillF fs z vs with
  | some cs => put d (.agg (AV.stl (k + 1) cs))
  | none => .fail
def elemOk (i : TI) (v : AV) : Bool := v.memOk && v.cellsL.length == i.size && (match v with
  | .agg _ => i.isAgg
  | .any => false
  | .tup _ => false
  | .ptr _ _ => false
  | .fa _ => false
  | .pv _ _ _ => false
  | .ea _ _ _ _ _ => false
  | _ => !i.isAgg) && (i.dp || v.scal)
def loadP (E : Env) (d : Nat) (i : TI) (v : AV) : Pg Unit := match v with
  | .fa cs => if i.isAgg then .need (i.size ≤ cs.length) (put d (.agg (AV.fzL (cs.take i.size)))) else (match cs with
    | c :: _ => put d c.fz
    | [] => .fail)
  | .ptr n off => .rd (loc n 999) fun fl => match fl with
    | .i .i64 z => if (off + i.size : Nat) ≤ z then (if i.isAgg then rdlK n off 0 i.size fun cs => put d (.agg cs) else if E.lend.contains d then put d (.pv (loc n off) [] [0]) else .rd (loc n off) fun c => match c with
      | .sl (some s) nil sz dp l => if E.frz.contains d then Pg.wr (loc n off) (AV.sl (some s) nil sz dp l).fz (put d (AV.sl (some s) nil sz dp l).fz) else put d (.pv (loc n off) [] [s])
      | c => put d c) else .fail
    | _ => .fail
  | .ea r ix ss j u => (rslP r ix ss).bind fun p => match p.1 with
    | .sl _ _ _ _ l => .ex (fun e => l[j]? = some e) fun e => match e with
      | .agg cs => if (cs.drop u).any AV.own1 then .fail else if i.isAgg then .need (u + i.size ≤ cs.length) (put d (.agg ((cs.drop u).take i.size))) else (match cs.drop u with
        | c :: _ => put d c
        | [] => .fail)
      | .sl (some s) nil sz dp l => if i.isAgg || u != 0 then .fail else put d (.pv r (ix ++ [j]) (ss ++ [s]))
      | c => if i.isAgg || u != 0 then .fail else put d c
    | _ => .fail
  | .pfa n off => if i.isAgg then .fail else put d (.ptr n off)
  | _ => .fail
def storeP (z : Nat) (v : AV) (q : AV) : Pg Unit := match q with
  | .ptr n off => .rd (loc n 999) fun fl => match fl with
    | .i .i64 y => if (off + v.cellsL.length : Nat) ≤ y ∧ v.memOk = true then wrl n off 0 v.cellsL else .fail
    | _ => .fail
  | .ea r ix ss j u => (rslP r ix ss).bind fun p => match p.1 with
    | .sl (some s) nil sz dp l => .ex (fun e => l[j]? = some e) fun e => if v.memOk && v.plain1 && (dp || v.scal) then (match e with
      | .agg cs => if u < cs.length then Pg.wr r (p.2 (.sl (some s) nil sz dp (l.set j (.agg (cs.set u v))))) (.ret ()) else .fail
      | _ => if u = 0 then Pg.wr r (p.2 (.sl (some s) nil sz dp (l.set j v))) (.ret ()) else .fail) else .fail
    | _ => .fail
  | _ => .fail
def nilP (op : BinOp) (d : Nat) (n : Bool) : Pg Unit := match op with
  | .eql => put d (.b n)
  | .neq => put d (.b (!n))
  | _ => .fail
def binP (op : BinOp) (d : Nat) (ti : Option TI) (y : Operand) (a b : AV) : Pg Unit := match ti with
  | some i => match i.k with
    | .sl _ => match y with
      | .const (.slice none 0 0) => (look a).bind fun c => match c with
        | .sl _ (some n) _ _ _ => nilP op d n
        | _ => .fail
      | _ => .fail
    | .bool => match a, b with
      | .b a, .b b => match op with
        | .eql => put d (.b (a == b))
        | .neq => put d (.b (!(a == b)))
        | _ => .fail
      | _, _ => .fail
    | _ => match bin op a b with
      | some (c, v) => .need c (pex d v)
      | none => .fail
  | none => .fail
def isStr (E : Env) (t : Nat) : Bool := match E.tb.get t with
  | some i => match i.k with
    | .str => true
    | _ => false
  | none => false
def sliceP (k d : Nat) (st : Bool) (z : Option Nat) (lo hi : Option Operand) (v : AV) : Pg Unit := match v with
  | .s x => if st then (optI lo 0).bind fun lo => (optI hi x.size).bind fun hi => .need (0 ≤ lo ∧ lo ≤ hi ∧ hi ≤ x.size) (put d (.s (x.extract lo.toNat hi.toNat))) else .fail
  | .sl none nil sz dp l => if z = some sz then (optI lo 0).bind fun lo => (optI hi l.length).bind fun hi => .need (0 ≤ lo ∧ lo ≤ hi ∧ hi ≤ l.length) (put d (.sl none nil sz dp ((l.take hi.toNat).drop lo.toNat))) else .fail
  | _ => .fail
def slice0P (k d : Nat) (v : AV) : Pg Unit := (look v).bind fun c => match c with
  | .sl _ nil sz dp _ => put d (.sl (some (k + 1)) nil sz dp [])
  | _ => .fail
def fieldAddrP (d off : Nat) (v : AV) : Pg Unit := match v with
  | .ptr n u => put d (.ptr n (u + off))
  | .ea r ix ss j u => (rslP r ix ss).bind fun p => match p.1 with
    | .sl _ _ _ _ l => .need (j < l.length) (put d (.ea r ix ss j (u + off)))
    | _ => .fail
  | .fa cs => put d (.fa (cs.drop off))
  | _ => .fail
def fieldP (d off : Nat) (i : TI) (v : AV) : Pg Unit := match v with
  | .agg cs => if cs.any AV.own1 then .fail else if i.isAgg then .need (off + i.size ≤ cs.length) (put d (.agg ((cs.drop off).take i.size))) else (match cs.drop off with
    | c :: _ => put d c
    | [] => .fail)
  | _ => .fail
def indexAddrP (d z : Nat) (x : Operand) (n : Int) (v : AV) : Pg Unit := match v with
  | .sl none nil sz dp l => if sz = z then .need (0 ≤ n ∧ n < l.length) (.ex (fun e => l[n.toNat]? = some e) fun e => put d (.fa e.cellsL)) else .fail
  | .sl (some s) nil sz dp l => if sz = z then .need (0 ≤ n ∧ n < l.length) (match x with
    | .tmp t => put d (.ea t [] [s] n.toNat 0)
    | _ => .fail) else .fail
  | .pv r ix ss => (rslP r ix ss).bind fun p => match p.1 with
    | .sl _ nil sz dp l => if sz = z then .need (0 ≤ n ∧ n < l.length) (put d (.ea r ix ss n.toNat 0)) else .fail
    | _ => .fail
  | .psl l => if z = 1 then .need (0 ≤ n ∧ n < l.length) (match l[n.toNat]? with
    | some (m, o) => put d (.pfa m o)
    | none => .fail) else .fail
  | _ => .fail
def indexP (d : Nat) (n : Int) (v : AV) : Pg Unit := match v with
  | .s y => .need (0 ≤ n) (.ex (fun e => ∃ b, y[n.toNat]? = some b ∧ e = .i .u8 b.toNat) fun e => put d e)
  | _ => .fail
/-- bl: nothing is taken (what comes out is told at the region's end). -/
def extractP (k d t j : Nat) (bl : Bool) (v : AV) : Pg Unit := match v with
  | .tup l => match l[j]? with
    | some e => if bl then put d .any else if e.own2 then Pg.wr t (.tup (l.set j .any)) (put d (e.st (k + 1))) else put d e
    | none => .fail
  | _ => .fail
def lenP (d : Nat) (ti : Option TI) (v : AV) : Pg Unit := match ti with
  | some i => (look v).bind fun v => match i.k, v with
    | .sl _, .sl _ _ _ _ l => pex d (.i .i64 l.length)
    | .str, .s x => pex d (.i .i64 x.size)
    | .sl _, .psl l => pex d (.i .i64 l.length)
    | _, _ => .fail
  | none => .fail
def maxP (d : Nat) (a b : AV) : Pg Unit := match a, b with
  | .i k m, .i k' n => if k = k' then pex d (.i k (if n > m then n else m)) else .fail
  | _, _ => .fail
def minP (d : Nat) (a b : AV) : Pg Unit := match a, b with
  | .i k m, .i k' n => if k = k' then pex d (.i k (if n < m then n else m)) else .fail
  | _, _ => .fail
/-- A row of boxes' addresses, written out. -/
def ptrsP : Nat → List (Nat × Operand) → Pg (List (Nat × Nat))
  | _, [] => .ret []
  | j, (i, .tmp t) :: ps => if i = j then .rd t fun v => (match v with
    | .ptr n o => (ptrsP (j + 1) ps).bind fun l => .ret ((n, o) :: l)
    | _ => .fail) else .fail
  | _, _ => .fail
def bsP (d n : Nat) (ps : List (Nat × Operand)) : Pg Unit := (ptrsP 0 ps).bind fun l => if l.length = n ∧ 0 < n ∧ n ≤ 1000 then put d (.psl l) else .fail
def TI.isPtr (i : TI) : Bool := match i.k with
  | .ptr => true
  | _ => false
def callQ (E : Env) (k d f : Nat) (xs : List Operand) : Pg Unit :=
  if E.lend.contains d then (args xs).bind fun ars => .call f ars fun r => if r.allown then put d (r.st (k + 1)) else .fail
  else (takes k xs).bind fun ars => if ars.all AV.lentOk then .call f ars fun r => if E.frz.contains d then put d r.fzT else put d (r.st (k + 1)) else .fail
/-- The address of a box of one number is handed on: it is written by the call. -/
def callB (k d f n : Nat) (xs : List Operand) : Pg Unit :=
  (takes k xs).bind fun ars => .rd (loc n 999) fun fl => match fl with
    | .i .i64 z => if z = 1 ∧ ars.all AV.lentOk = true then .rd (loc n 0) fun c => if c.scal1 then .call f (.tup [c] :: ars) fun r => (match r with
        | .tup [r1, .tup [c']] => if c'.scal1 then .wr (loc n 0) c' (put d (r1.st (k + 1))) else .fail
        | _ => .fail) else .fail else .fail
    | _ => .fail
def callP (E : Env) (k d f : Nat) (xs : List Operand) : Pg Unit := match xs with
  | .tmp t :: xs' => .rd t fun v => match v with
    | .ptr n 0 => callB k d f n xs'
    | _ => callQ E k d f xs
  | _ => callQ E k d f xs
/-- Bytes; the string that they are. -/
def U8s (l : List AV) : Prop := ∀ v ∈ l, ∃ n, v = .i .u8 n
def bytesOf (l : List AV) : ByteArray := l.foldl (fun r v => match v with | .i _ n => r.push (UInt8.ofNat n.toNat) | _ => r) ByteArray.empty
def isU8 (E : Env) (e : Nat) : Bool := match E.tb.get e with
  | some u => (match u.k with
    | .int .u8 => true
    | _ => false)
  | none => false
def convS (E : Env) (d e : Nat) (a : AV) : Pg Unit := (look a).bind fun v => match v with
  | .sl _ _ 1 false l => if isU8 E e then .need (U8s l) (pex d (.s (bytesOf l))) else .fail
  | _ => .fail
def convP (E : Env) (d : Nat) (i j : TI) (a : AV) : Pg Unit := match i.k, j.k with
  | .sl e, .str => convS E d e a
  | _, _ => match a, i.k, j.k with
    | .i k n, .int _, .int k' => pex d (.i k' (k'.wrap n))
    | .s x, .str, .str => put d (.s x)
    | _, _, _ => .fail
def makeP (k d : Nat) (i : TI) (n c : AV) : Pg Unit := match n, c with
  | .i .i64 n, .i .i64 c => .need (n ≤ c ∧ 0 ≤ n ∧ c ≤ 70368744177664 ∧ c * i.bytes ≤ 70368744177664) (if i.dp = true ∨ (zeroE i).scal = true then put d (.sl (some (k + 1)) (some false) i.size i.dp (List.replicate n.toNat (zeroE i))) else .fail)
  | _, _ => .fail
/-- An operation without its guard, its destination d. -/
def opD (E : Env) (k d : Nat) (op : Op) : Pg Unit :=
  match op with
  | .move x => moveP E k d x
  | .assign x => (take k (E.frz.contains d) (E.frz.contains d) x).bind fun v => put d v
  | .pick c a b => (rdo c).bind fun c => (rdo a).bind fun a => (rdo b).bind fun b => pickP d c a b
  | .alloc e => match E.tb.get e with
    | some i => newbx d (AV.stl (k + 1) i.zero)
    | none => .fail
  | .box e x => match E.tb.get e with
    | some i => (take k false false x).bind fun v => if v.cellsL.length = i.size ∧ v.memOk = true then newbx d v.cellsL else .fail
    | none => .fail
  | .build t ps => match E.tb.get t with
    | some i => match i.k with
      | .st fs => match placesOf E.tb fs with
        | some pl => partsK k false true ps.toList fun vs => buildP k d pl i.zero vs
        | none => .fail
      | _ => .fail
    | none => .fail
  | .buildSlice t n ps => match elemOf E t with
    | some i => if i.isPtr then bsP d n ps.toList else if n * i.size ≤ 1000 ∧ (i.dp = true ∨ (zeroE i).scal = true) then partsK k (!E.nest.contains d) (!E.nest.contains d) ps.toList fun vs => if vs.all (fun p => p.1 < n && elemOk i p.2) then (Pg.fc (setAll (List.replicate n (zeroE i)) vs) fun l => put d (.sl (some (k + 1)) (some false) i.size i.dp l)) else .fail else .fail
    | none => .fail
  | .load t a => match E.tb.get t with
    | some i => (rdo a).bind fun v => loadP E d i v
    | none => .fail
  | .nilCheck x => (rdo x).bind fun v => match v with
    | .ptr n u => put d (.ptr n u)
    | .fa cs => put d (.fa cs)
    | _ => .fail
  | .binOp op t x y _ => (rdo x).bind fun a => (rdo y).bind fun b => binP op d (E.tb.get t) y a b
  | .unOp op _ x => (rdo x).bind fun a => match un op a with
    | some v => pex d v
    | none => .fail
  | .convert s t x => match E.tb.get s, E.tb.get t with
    | some i, some j => (rdo x).bind fun a => convP E d i j a
    | _, _ => .fail
  | .makeSlice t n c => match elemOf E t with
    | some i => (rdo n).bind fun n => (rdo c).bind fun c => makeP k d i n c
    | none => .fail
  | .slice t x lo hi mx => match mx with
    | none => (take k true true x).bind fun v => sliceP k d (isStr E t) ((elemOf E t).map (·.size)) lo hi v
    | some (.const (.int .i64 0)) => match hi with
      | some (.const (.int .i64 0)) => match lo with
        | none => match elemOf E t with
          | some _ => (rdo x).bind fun v => slice0P k d v
          | none => .fail
        | some _ => .fail
      | _ => .fail
    | some _ => .fail
  | .fieldAddr t x f => match fieldOf E t f with
    | some (off, ft) => match E.tb.get ft with
      | some _ => (rdo x).bind fun v => fieldAddrP d off v
      | none => .fail
    | none => .fail
  | .field t x f => match fieldOf E t f with
    | some (off, ft) => match E.tb.get ft with
      | some i => (rdo x).bind fun v => fieldP d off i v
      | none => .fail
    | none => .fail
  | .indexAddr t x ix => match elemOf E t with
    | some i => (rdo ix).bind fun n => match n with
      | .i _ n => (rdo x).bind fun v => indexAddrP d i.size x n v
      | _ => .fail
    | none => .fail
  | .index t x ix => match E.tb.get t with
    | some i => match i.k with
      | .str => (rdo ix).bind fun n => match n with
        | .i _ n => (rdo x).bind fun v => indexP d n v
        | _ => .fail
      | _ => .fail
    | none => .fail
  | .extract x j => match x with
    | .tmp t => .rd t fun v => extractP k d t j (E.lend.contains d) v
    | _ => .fail
  | .call c => match c.callee with
    | .builtin .len => match c.args.toList, c.argTypes.toList with
      | [x], [t] => (rdo x).bind fun v => lenP d (E.tb.get t) v
      | _, _ => .fail
    | .builtin .append => match c.args.toList, c.argTypes.toList with
      | [s, x], [t, t'] => if t = t' then (match elemOf E t with
        | some i => (appL E d i.size i.dp x).bind fun lx => (appS k s).bind fun c => appR d k i c lx
        | none => .fail) else .fail
      | _, _ => .fail
    | .builtin .max => match c.args.toList with
      | [x, y] => (rdo x).bind fun a => (rdo y).bind fun b => maxP d a b
      | _ => .fail
    | .builtin .min => match c.args.toList with
      | [x, y] => (rdo x).bind fun a => (rdo y).bind fun b => minP d a b
      | _ => .fail
    | .value (.func f) => callP E k d f c.args.toList
    | _ => .fail
  | _ => .fail
def opG (E : Env) (k : Nat) (o : Oper) : Pg Unit := match o.dst with
  | some d => opD E k d o.op
  | none => match o.op with
    | .store t a x => match E.tb.get t with
      | some i => (take k false false x).bind fun v => (rdo a).bind fun q => if v.cellsL.length = i.size then storeP i.size v q else .fail
      | none => .fail
    | _ => .fail
/-- With its guard. What is left out leaves an empty tuple, and what hangs on that is left out too. -/
def opS (E : Env) (ops : Array Oper) (k : Nat) (o : Oper) : Pg Unit :=
  match o.guard with
  | none => opG E k o
  | some (j, c) => match (ops[j]?).bind (·.dst) with
    | some t => .rd t fun v => match v with
      | .b x => .ex (fun u => .b x = u) fun u => match u with
        | .b true => if c then opG E k o else wrd o.dst (.tup [])
        | .b false => if c then wrd o.dst (.tup []) else opG E k o
        | _ => .fail
      | .tup [] => wrd o.dst (.tup [])
      | _ => .fail
    | none => .fail
end Go.Proofs.Ytjihjjbieeofdaa.T
namespace Go.Proofs.Ytjihjjbieeofdaa.T
set_option linter.unusedSimpArgs false
set_option linter.unusedVariables false
open Go
set_option linter.unusedVariables false
set_option linter.unusedSimpArgs false
inductive Rp (w : World) (F : Nat → Prop) : AV → List Value → List Nat → Prop
  | any {v : Value} (h : v.oneCell' = true) : Rp w F .any [v] []
  | b (x : Bool) : Rp w F (.b x) [.bool x] []
  | i (k : IntKind) (n : Int) : Rp w F (.i k n) [.int k n] []
  | s (x : ByteArray) : Rp w F (.s x) [.string x] []
  | fz {A : Option Addr} {nil : Option Bool} {sz : Nat} {dp : Bool} {l : List AV} {cap b off : Nat} {cs : Nat → List Value} (hc : l.length ≤ cap) (hm : cap ≤ maxLen)
      (hn : ∀ x, nil = some x → (x = true ↔ A = none)) (h0 : A = none → l = [] ∧ cap = 0)
      (hA : l ≠ [] → A = some ⟨b, off, none⟩ ∧ F b) (hl : ∀ j, j < l.length → (cs j).length = sz) (hr : ∀ j e, l[j]? = some e → Rp w F e (cs j) []) (hd : dp = false → ∀ e ∈ l, e.scal = true)
      (hw : ∀ j q u, j < l.length → (cs j)[q]? = some u → w.cell? ⟨b, off + (j * sz + q), none⟩ = some u) : Rp w F (.sl none nil sz dp l) [.slice A l.length cap] []
  | own0 {nil : Option Bool} {sz st : Nat} {dp : Bool} (hn : nil ≠ some false) : Rp w F (.sl (some st) nil sz dp []) [.slice none 0 0] []
  | own1 {a : Addr} {nil : Option Bool} {sz st : Nat} {dp : Bool} (hn : nil ≠ some true) : Rp w F (.sl (some st) nil sz dp []) [.slice (some a) 0 0] []
  | own {b cap : Nat} {arr : Array Value} {ty : TypeId} {nil : Option Bool} {sz st : Nat} {dp : Bool} {l : List AV} {cs : Nat → List Value} {ts : Nat → List Nat} (hn : nil ≠ some true) (hh : w.heap[b]? = some (.cells arr ty (0, 0)))
      (hc : l.length ≤ cap) (hm : cap ≤ maxLen) (hs : arr.size = cap * sz) (hl : ∀ j, j < l.length → (cs j).length = sz) (hr : ∀ j e, l[j]? = some e → Rp w F e (cs j) (ts j))
      (hw : ∀ j q u, j < l.length → (cs j)[q]? = some u → arr[j * sz + q]? = some u) (hd : dp = false → ∀ e ∈ l, e.scal = true) : Rp w F (.sl (some st) nil sz dp l) [.slice (some ⟨b, 0, none⟩) l.length cap] (b :: (List.range l.length).flatMap ts)
  | agg {l : List AV} {cs : List Value} {ts : Nat → List Nat} (hl : cs.length = l.length) (hg : ∀ (j : Nat) (e : AV), l[j]? = some e → ∀ l', e ≠ AV.agg l') (hr : ∀ j e u, l[j]? = some e → cs[j]? = some u → Rp w F e [u] (ts j)) : Rp w F (.agg l) cs ((List.range l.length).flatMap ts)
  | fa {l : List AV} {b off : Nat} {us : Nat → Value} (hF : F b) (hg : ∀ (j : Nat) (e : AV), l[j]? = some e → ∀ l', e ≠ AV.agg l') (hr : ∀ j e, l[j]? = some e → Rp w F e [us j] []) (hw : ∀ j, j < l.length → w.cell? ⟨b, off + j, none⟩ = some (us j)) : Rp w F (.fa l) [.pointer (some ⟨b, off, none⟩)] []
theorem mem_flat {n : Nat} {ts : Nat → List Nat} {j b : Nat} (hj : j < n) (h : b ∈ ts j) : b ∈ (List.range n).flatMap ts := List.mem_flatMap.2 ⟨j, List.mem_range.2 hj, h⟩
theorem of_mem_flat {n : Nat} {ts : Nat → List Nat} {b : Nat} (h : b ∈ (List.range n).flatMap ts) : ∃ j, j < n ∧ b ∈ ts j := by
  obtain ⟨j, hj, hb⟩ := List.mem_flatMap.1 h
  exact ⟨j, List.mem_range.1 hj, hb⟩
theorem lt_of_get {α : Type} {l : List α} {j : Nat} {e : α} (h : l[j]? = some e) : j < l.length := (List.getElem?_eq_some_iff.1 h).1
theorem cell_of_block {w : World} {b o : Nat} {arr : Array Value} {ty : TypeId} {f : Nat × Nat} (h : w.heap[b]? = some (.cells arr ty f)) : w.cell? ⟨b, o, none⟩ = arr[o]? := by
  simp [World.cell?, h]
theorem cell_same {w w' : World} {b o : Nat} (h : w'.heap[b]? = w.heap[b]?) : w'.cell? ⟨b, o, none⟩ = w.cell? ⟨b, o, none⟩ := by
  simp [World.cell?, h]
section
variable {w w' : World} {F F' : Nat → Prop} {e : AV} {cs : List Value} {ts : List Nat}
theorem Rp.move (h : Rp w F e cs ts) (hF : ∀ b, F b → F' b) (h1 : ∀ b, F b → w'.heap[b]? = w.heap[b]?) (h2 : ∀ b ∈ ts, w'.heap[b]? = w.heap[b]?) : Rp w' F' e cs ts := by
  induction h with
  | any h => exact .any h
  | b x => exact .b x
  | i k n => exact .i k n
  | s x => exact .s x
  | fz hc hm hn h0 hA hl hr hd hw ih =>
    refine .fz hc hm hn h0 (fun hne => ⟨(hA hne).1, hF _ (hA hne).2⟩) hl (fun j e he => ih j e he (fun b hb => by cases hb)) hd (fun j q u hj hu => ?_)
    rw [cell_same (h1 _ (hA (by intro e; subst e; simp at hj)).2)]
    exact hw j q u hj hu
  | own0 hn => exact .own0 hn
  | own1 hn => exact .own1 hn
  | own hn hh hc hm hs hl hr hw hd ih =>
    refine .own hn ((h2 _ List.mem_cons_self).trans hh) hc hm hs hl (fun j e he => ih j e he (fun b hb => h2 b (List.mem_cons_of_mem _ (mem_flat (lt_of_get he) hb)))) hw hd
  | agg hl hg hr ih =>
    exact .agg hl hg (fun j e u he hu => ih j e u he hu (fun b hb => h2 b (mem_flat (lt_of_get he) hb)))
  | fa hf hg hr hw ih =>
    refine .fa (hF _ hf) hg (fun j e he => ih j e he (fun b hb => by cases hb)) (fun j hj => ?_)
    rw [cell_same (h1 _ hf)]
    exact hw j hj
theorem Rp.mono (h : Rp w F e cs ts) (hF : ∀ b, F b → F' b) : Rp w F' e cs ts := h.move hF (fun _ _ => rfl) (fun _ _ => rfl)
theorem fzL_get {l : List AV} {j : Nat} {e : AV} (h : (AV.fzL l)[j]? = some e) : ∃ e', l[j]? = some e' ∧ e = e'.fz := by
  rw [AV.fzL_map, List.getElem?_map] at h
  cases h' : l[j]? with
  | none => rw [h'] at h; cases h
  | some e' => rw [h'] at h; exact ⟨e', rfl, (by simpa using h.symm)⟩
theorem fzL_len (l : List AV) : (AV.fzL l).length = l.length := by rw [AV.fzL_map, List.length_map]
theorem fz_nagg {e : AV} (h : ∀ l', e ≠ AV.agg l') : ∀ l', e.fz ≠ AV.agg l' := by
  intro l' h'
  cases e with
  | agg l => exact h l rfl
  | sl o nl sz dp l => cases dp <;> cases h'
  | _ => cases h'
theorem scal1_any {e : AV} (h : Rp w F e cs ts) (hs : e.scal1 = true) (w2 : World) (F2 : Nat → Prop) : Rp w2 F2 e cs [] ∧ ts = [] := by
  cases h with
  | b x => exact ⟨.b x, rfl⟩
  | i k n => exact ⟨.i k n, rfl⟩
  | s x => exact ⟨.s x, rfl⟩
  | _ => cases hs
theorem scal_any {e : AV} (h : Rp w F e cs ts) (hs : e.scal = true) (w2 : World) (F2 : Nat → Prop) : Rp w2 F2 e cs [] ∧ ts = [] := by
  cases h with
  | @agg l _ tf hl hg hr =>
    have h1 : ∀ j (hj : j < l.length), tf j = [] ∧ ∀ u, cs[j]? = some u → Rp w2 F2 l[j] [u] [] := by
      intro j hj
      have hs1 : l[j].scal1 = true := List.all_eq_true.1 hs _ (List.getElem_mem hj)
      refine ⟨(scal1_any (hr j l[j] _ (List.getElem?_eq_getElem hj) (List.getElem?_eq_getElem (by omega))) hs1 w2 F2).2, fun u hu => (scal1_any (hr j l[j] u (List.getElem?_eq_getElem hj) hu) hs1 w2 F2).1⟩
    have e : (List.range l.length).flatMap tf = [] := List.flatMap_eq_nil_iff.2 (fun j hj => (h1 j (List.mem_range.1 hj)).1)
    refine ⟨?_, e⟩
    have h2 : Rp w2 F2 (.agg l) cs ((List.range l.length).flatMap fun _ => []) := .agg hl hg (fun j x u hx hu => by
      have hj := lt_of_get hx
      rw [List.getElem?_eq_getElem hj] at hx
      cases hx
      exact (h1 j hj).2 u hu)
    rwa [List.flatMap_eq_nil_iff.2 (fun _ _ => rfl)] at h2
  | b x => exact ⟨.b x, rfl⟩
  | i k n => exact ⟨.i k n, rfl⟩
  | s x => exact ⟨.s x, rfl⟩
  | _ => cases hs
/-- Read only from now on. -/
theorem Rp.toFz (h : Rp w F e cs ts) (hF : ∀ b, F b → F' b) (ht : ∀ b ∈ ts, F' b) : Rp w F' e.fz cs [] := by
  induction h with
  | any h => exact .any h
  | b x => exact .b x
  | i k n => exact .i k n
  | s x => exact .s x
  | @fz A nil sz dp l cap b off cs hc hm hn h0 hA hl hr hd hw ih =>
    cases dp with
    | false => exact Rp.mono (.fz hc hm hn h0 hA hl hr hd hw) hF
    | true =>
      have := fzL_len l
      rw [AV.fz, ← this]
      refine .fz (by rw [this]; exact hc) hm hn (fun h => ⟨by rw [(h0 h).1]; rfl, (h0 h).2⟩) (fun hne => ?_) (fun j hj => hl j (by omega)) (fun j e he => ?_) (fun h => by cases h) (fun j q u hj hu => hw j q u (by omega) hu)
      · have : l ≠ [] := by intro e; subst e; exact hne rfl
        exact ⟨(hA this).1, hF _ (hA this).2⟩
      · obtain ⟨e', he', rfl⟩ := fzL_get he
        exact ih j e' he' (fun b hb => by cases hb)
  | @own0 nil sz st dp hn =>
    have : (AV.sl (some st) nil sz dp []).fz = .sl none nil sz dp [] := by cases dp <;> rfl
    rw [this]
    exact .fz (l := []) (A := none) (cap := 0) (b := 0) (off := 0) (cs := fun _ => []) (Nat.le_refl _) (Nat.zero_le _) (fun x hx => by cases x <;> simp_all) (fun _ => ⟨rfl, rfl⟩) (fun h => absurd rfl h) (fun j hj => by simp at hj) (fun j e he => by simp at he) (fun _ e he => by cases he) (fun j q u hj => by simp at hj)
  | @own1 a nil sz st dp hn =>
    have : (AV.sl (some st) nil sz dp []).fz = .sl none nil sz dp [] := by cases dp <;> rfl
    rw [this]
    exact .fz (l := []) (A := some a) (cap := 0) (b := 0) (off := 0) (cs := fun _ => []) (Nat.le_refl _) (Nat.zero_le _) (fun x hx => by cases x <;> simp_all) (fun h => by cases h) (fun h => absurd rfl h) (fun j hj => by simp at hj) (fun j e he => by simp at he) (fun _ e he => by cases he) (fun j q u hj => by simp at hj)
  | @own b cap arr ty nil sz st dp l cs ts hn hh hc hm hs hl hr hw hd ih =>
    have key : ∀ l' : List AV, l'.length = l.length → (∀ j e, l'[j]? = some e → Rp w F' e (cs j) []) → (dp = false → ∀ e ∈ l', e.scal = true) → Rp w F' (.sl none nil sz dp l') [.slice (some ⟨b, 0, none⟩) l.length cap] [] := by
      intro l' hl' hr' hd'
      rw [← hl']
      refine .fz (b := b) (off := 0) (by omega) hm (fun x hx => by cases x <;> simp_all) (fun h => by cases h) (fun _ => ⟨rfl, ht _ List.mem_cons_self⟩) (fun j hj => hl j (by omega)) hr' hd' (fun j q u hj hu => ?_)
      rw [cell_of_block hh, Nat.zero_add]
      exact hw j q u (by omega) hu
    cases dp with
    | false => exact key l rfl (fun j e he => (scal_any (hr j e he) (hd rfl e (List.mem_of_getElem? he)) w F').1) hd
    | true =>
      refine key _ (fzL_len l) (fun j e he => ?_) (fun h => by cases h)
      obtain ⟨e', he', rfl⟩ := fzL_get he
      exact ih j e' he' (fun b hb => ht b (List.mem_cons_of_mem _ (mem_flat (lt_of_get he') hb)))
  | @agg l cs ts hl hg hr ih =>
    have : Rp w F' (.agg (AV.fzL l)) cs ((List.range (AV.fzL l).length).flatMap fun _ => []) := .agg (by rw [fzL_len]; exact hl) (fun j e he l' e' => by
      obtain ⟨e0, he0, rfl⟩ := fzL_get he
      exact fz_nagg (hg j e0 he0) l' e') (fun j e u he hu => by
      obtain ⟨e', he', rfl⟩ := fzL_get he
      exact ih j e' u he' hu (fun b hb => ht b (mem_flat (lt_of_get he') hb)))
    rw [List.flatMap_eq_nil_iff.2 (fun _ _ => rfl)] at this
    exact this
  | fa hf hg hr hw ih => exact Rp.mono (.fa hf hg hr hw) hF
theorem Rp.one (h : Rp w F e cs ts) : (∀ l, e ≠ .agg l) → ∃ u, cs = [u] ∧ u.oneCell' = true := by
  intro hne
  cases h with
  | any h => exact ⟨_, rfl, h⟩
  | agg => exact absurd rfl (hne _)
  | _ => exact ⟨_, rfl, rfl⟩
theorem Rp.cellsOne (h : Rp w F e cs ts) : ∀ u ∈ cs, u.oneCell' = true := by
  induction h with
  | any h => intro u hu; rw [List.mem_singleton.1 hu]; exact h
  | @agg l cs ts hl hg hr ih =>
    intro u hu
    obtain ⟨j, hj, rfl⟩ := List.mem_iff_getElem.1 hu
    exact ih j _ _ (List.getElem?_eq_getElem (by omega)) (List.getElem?_eq_getElem hj) _ List.mem_cons_self
  | _ => intro u hu; rw [List.mem_singleton.1 hu]; rfl
theorem Rp.len (h : Rp w F e cs ts) : e.cellsL.length = cs.length := by
  cases h with
  | agg hl _ _ => exact hl.symm
  | _ => rfl
/-- Its cells one by one. -/
theorem Rp.cells (h : Rp w F e cs ts) : ∃ tf : Nat → List Nat, ts = (List.range e.cellsL.length).flatMap tf ∧ ∀ j x u, e.cellsL[j]? = some x → cs[j]? = some u → Rp w F x [u] (tf j) := by
  cases h with
  | @agg l cs tf hl hg hr => exact ⟨tf, rfl, hr⟩
  | any h => exact ⟨fun _ => [], rfl, fun j x u hx hu => by cases j <;> simp [AV.cellsL] at hx hu; subst hx; subst hu; exact .any h⟩
  | b x => exact ⟨fun _ => [], rfl, fun j x u hx hu => by cases j <;> simp [AV.cellsL] at hx hu; subst hx; subst hu; exact .b _⟩
  | i k n => exact ⟨fun _ => [], rfl, fun j x u hx hu => by cases j <;> simp [AV.cellsL] at hx hu; subst hx; subst hu; exact .i _ _⟩
  | s x => exact ⟨fun _ => [], rfl, fun j x u hx hu => by cases j <;> simp [AV.cellsL] at hx hu; subst hx; subst hu; exact .s _⟩
  | fz hc hm hn h0 hA hl hr hd hw => exact ⟨fun _ => [], rfl, fun j x u hx hu => by cases j <;> simp [AV.cellsL] at hx hu; subst hx; subst hu; exact .fz hc hm hn h0 hA hl hr hd hw⟩
  | own0 hn => exact ⟨fun _ => [], rfl, fun j x u hx hu => by cases j <;> simp [AV.cellsL] at hx hu; subst hx; subst hu; exact .own0 hn⟩
  | own1 hn => exact ⟨fun _ => [], rfl, fun j x u hx hu => by cases j <;> simp [AV.cellsL] at hx hu; subst hx; subst hu; exact .own1 hn⟩
  | own hn hh hc hm hs hl hr hw hd => exact ⟨fun _ => _, (by simp [AV.cellsL, List.range_succ, List.flatMap_cons]; rfl), fun j x u hx hu => by cases j <;> simp [AV.cellsL] at hx hu; subst hx; subst hu; exact .own hn hh hc hm hs hl hr hw hd⟩
  | fa hf hg hr hw => exact ⟨fun _ => [], rfl, fun j x u hx hu => by cases j <;> simp [AV.cellsL] at hx hu; subst hx; subst hu; exact .fa hf hg hr hw⟩
theorem rp_agg {l : List AV} (h : Rp w F (.agg l) cs ts) : ∃ tf : Nat → List Nat, cs.length = l.length ∧ (∀ (j : Nat) (e : AV), l[j]? = some e → ∀ l', e ≠ AV.agg l') ∧ (∀ (j : Nat) (e : AV) (u : Value), l[j]? = some e → cs[j]? = some u → Rp w F e [u] (tf j)) ∧ ts = (List.range l.length).flatMap tf := by
  cases h with
  | agg hl hg hr => exact ⟨_, hl, hg, hr, rfl⟩
theorem Rp.cellsNagg (h : Rp w F e cs ts) : ∀ (j : Nat) (x : AV), e.cellsL[j]? = some x → ∀ l', x ≠ AV.agg l' := by
  intro j x hx l' h'
  subst h'
  cases h with
  | agg hl hg hr => exact hg j _ hx l' rfl
  | _ => cases j <;> simp [AV.cellsL] at hx
/-- Not the holder of anything. -/
theorem Rp.noTok (h : Rp w F e cs ts) (ho : e.own1 = false) (hne : ∀ l, e ≠ .agg l) : ts = [] := by
  cases h with
  | own0 | own1 | own => cases ho
  | agg => exact absurd rfl (hne _)
  | _ => rfl
theorem Rp.st1 (h : Rp w F e cs ts) (k : Nat) : Rp w F (e.st1 k) cs ts := by
  cases h with
  | any h => exact .any h
  | b x => exact .b x
  | i k n => exact .i k n
  | s x => exact .s x
  | fz hc hm hn h0 hA hl hr hd hw => exact .fz hc hm hn h0 hA hl hr hd hw
  | own0 hn => exact .own0 hn
  | own1 hn => exact .own1 hn
  | own hn hh hc hm hs hl hr hw hd => exact .own hn hh hc hm hs hl hr hw hd
  | agg hl hg hr => exact .agg hl hg hr
  | fa hf hg hr hw => exact .fa hf hg hr hw
theorem stl_get {k : Nat} : ∀ {l : List AV} {j : Nat} {e : AV}, (AV.stl k l)[j]? = some e → ∃ e', l[j]? = some e' ∧ e = e'.st1 k
  | [], j, e, h => by simp [AV.stl] at h
  | v :: l, 0, e, h => by simp [AV.stl] at h; exact ⟨v, by simp, h.symm⟩
  | v :: l, j + 1, e, h => by
    simp [AV.stl] at h
    obtain ⟨e', h1, h2⟩ := stl_get h
    exact ⟨e', by simpa using h1, h2⟩
theorem stl_len (k : Nat) : ∀ l : List AV, (AV.stl k l).length = l.length
  | [] => rfl
  | v :: l => by simp [AV.stl, stl_len k l]
theorem st1_nagg {k : Nat} {e : AV} (h : ∀ l', e ≠ AV.agg l') : ∀ l', e.st1 k ≠ AV.agg l' := by
  intro l' h'
  cases e with
  | agg l => exact h l rfl
  | sl o nl sz dp l => cases o <;> cases h'
  | _ => cases h'
theorem Rp.st2 (h : Rp w F e cs ts) (k : Nat) : Rp w F (e.st2 k) cs ts := by
  cases h with
  | any h => exact .any h
  | b x => exact .b x
  | i k n => exact .i k n
  | s x => exact .s x
  | fz hc hm hn h0 hA hl hr hd hw => exact .fz hc hm hn h0 hA hl hr hd hw
  | own0 hn => exact .own0 hn
  | own1 hn => exact .own1 hn
  | own hn hh hc hm hs hl hr hw hd => exact .own hn hh hc hm hs hl hr hw hd
  | @agg l cs ts hl hg hr =>
    have : Rp w F (.agg (AV.stl k l)) cs ((List.range (AV.stl k l).length).flatMap ts) := .agg (by rw [stl_len]; exact hl) (fun j e he l' e' => by
      obtain ⟨e0, he0, rfl⟩ := stl_get he
      exact st1_nagg (hg j e0 he0) l' e') (fun j e u he hu => by
      obtain ⟨e', he', rfl⟩ := stl_get he
      exact (hr j e' u he' hu).st1 k)
    rwa [stl_len] at this
  | fa hf hg hr hw => exact .fa hf hg hr hw
end
/-! ### Places within slices -/
inductive Path : AV → List Nat → List Nat → AV → (AV → AV) → Prop
  | nil {s : Nat} {nl : Option Bool} {sz : Nat} {dp : Bool} {l : List AV} : Path (.sl (some s) nl sz dp l) [] [s] (.sl (some s) nl sz dp l) (fun x => x)
  | cons {s : Nat} {nl : Option Bool} {sz : Nat} {dp : Bool} {l : List AV} {i : Nat} {e : AV} {is ss : List Nat} {c : AV} {rb : AV → AV} (he : l[i]? = some e) (h : Path e is ss c rb) : Path (.sl (some s) nl sz dp l) (i :: is) (s :: ss) c (fun x => .sl (some s) nl sz dp (l.set i (rb x)))
theorem Path.own {v c : AV} {ix ss : List Nat} {rb : AV → AV} (h : Path v ix ss c rb) : ∃ s nl sz dp l, c = .sl (some s) nl sz dp l := by
  induction h with
  | nil => exact ⟨_, _, _, _, _, rfl⟩
  | cons _ _ ih => exact ih
theorem path_fun {v c c2 : AV} {ix ss ss2 : List Nat} {rb rb2 : AV → AV} (h : Path v ix ss c rb) (h2 : Path v ix ss2 c2 rb2) : c2 = c := by
  induction h generalizing ss2 rb2 with
  | nil => cases h2; rfl
  | cons he _ ih =>
    cases h2 with
    | cons he2 h3 =>
      rw [he] at he2
      cases he2
      exact ih h3
/-- The value at a place. -/
def pvI (w : World) : List Nat → Value → Option Value
  | [], v => some v
  | i :: is, v => match v with
    | .slice (some a) _ _ => (w.cell? ⟨a.block, i, none⟩).bind (pvI w is)
    | _ => none
theorem range_split (n i : Nat) (hi : i < n) (f : Nat → List Nat) : (List.range n).flatMap f = (List.range i).flatMap f ++ f i ++ (List.range (n - (i + 1))).flatMap fun j => f (i + 1 + j) := by
  have h : n = i + (1 + (n - (i + 1))) := by omega
  conv => lhs; rw [h, List.range_add, List.flatMap_append, List.flatMap_map, List.range_add, List.flatMap_append, List.flatMap_map]
  simp [List.append_assoc, Nat.add_assoc]
theorem flat_congr {n : Nat} {f g : Nat → List Nat} (h : ∀ j, j < n → f j = g j) : (List.range n).flatMap f = (List.range n).flatMap g := by
  induction n with
  | zero => rfl
  | succ n ih =>
    rw [List.range_succ, List.flatMap_append, List.flatMap_append, ih (fun j hj => h j (by omega))]
    simp [h n (by omega)]
section
variable {w : World} {F : Nat → Prop}
theorem path_rep {v c : AV} {ix ss : List Nat} {rb : AV → AV} (hp : Path v ix ss c rb) : ∀ {u : Value} {ts : List Nat}, Rp w F v [u] ts → ∃ vp tp pre post, pvI w ix u = some vp ∧ Rp w F c [vp] tp ∧ ts = pre ++ tp ++ post ∧
    ∀ (w' : World) (F' : Nat → Prop) (c' : AV) (tp' : List Nat), (∀ b, F b → F' b) → (∀ b, F b → w'.heap[b]? = w.heap[b]?) → (∀ b ∈ pre ++ post, w'.heap[b]? = w.heap[b]?) → (tp = [] → tp' = []) → Rp w' F' c' [vp] tp' → Rp w' F' (rb c') [u] (pre ++ tp' ++ post) := by
  induction hp with
  | nil => intro u ts h; exact ⟨u, ts, [], [], rfl, h, by simp, fun w' F' c' tp' _ _ _ _ h' => by simpa using h'⟩
  | @cons s nl sz dp l i e is ss c rb he hp ih =>
    intro u ts h
    cases h with
    | own0 => simp at he
    | own1 => simp at he
    | @own b cap arr ty _ _ _ _ _ cs tf hn hh hc hm hs hl hr hw hd =>
      have hi := lt_of_get he
      have hre := hr i e he
      have hne : ∀ l', e ≠ .agg l' := by
        intro l' h'
        subst h'
        cases hp
      obtain ⟨x, hx, hx1⟩ := hre.one hne
      rw [hx] at hre
      have hsz : sz = 1 := by have := hl i hi; rw [hx] at this; simpa using this.symm
      subst hsz
      obtain ⟨vp, tp, pre, post, h1, h2, h3, h4⟩ := ih hre
      have hcell : w.cell? ⟨b, i, none⟩ = some x := by
        rw [cell_of_block hh]
        have := hw i 0 x hi (by rw [hx]; rfl)
        simpa using this
      refine ⟨vp, tp, b :: ((List.range i).flatMap tf ++ pre), post ++ (List.range (l.length - (i + 1))).flatMap fun j => tf (i + 1 + j), by simp [pvI, hcell, h1], h2, ?_, ?_⟩
      · rw [range_split _ _ hi, h3]; simp
      · intro w' F' c' tp' hF hf ht he0 h'
        have hcong : ∀ b' ∈ pre ++ post, w'.heap[b']? = w.heap[b']? := fun b' hb' => ht b' (by simp at hb' ⊢; rcases hb' with hb' | hb' <;> simp [hb'])
        have hin := h4 w' F' c' tp' hF hf hcong he0 h'
        have hlen : (l.set i (rb c')).length = l.length := List.length_set
        have e1 : (List.range (l.set i (rb c')).length).flatMap (fun j => if j = i then pre ++ tp' ++ post else tf j) = (List.range i).flatMap tf ++ (pre ++ tp' ++ post) ++ (List.range (l.length - (i + 1))).flatMap fun j => tf (i + 1 + j) := by
          rw [hlen, range_split _ _ hi]
          congr 1
          · congr 1
            · exact flat_congr (fun j hj => by rw [if_neg (by omega)])
            · rw [if_pos rfl]
          · exact flat_congr (fun j hj => by rw [if_neg (by omega)])
        have h5 : Rp w' F' (.sl (some s) nl 1 dp (l.set i (rb c'))) [.slice (some ⟨b, 0, none⟩) (l.set i (rb c')).length cap] (b :: (List.range (l.set i (rb c')).length).flatMap (fun j => if j = i then pre ++ tp' ++ post else tf j)) := by
          refine .own (cs := cs) hn ((ht b (by simp)).trans hh) (by rw [hlen]; exact hc) hm hs (fun j hj => hl j (by omega)) (fun j e' he' => ?_) (fun j q y hj hy => hw j q y (by omega) hy) (fun hdp e0 he0 => ?_)
          · by_cases hj : j = i
            · subst hj
              rw [List.getElem?_set_self hi] at he'
              cases he'
              rw [if_pos rfl, hx]
              exact hin
            · rw [List.getElem?_set_ne (fun h => hj h.symm)] at he'
              rw [if_neg hj]
              exact (hr j e' he').move hF hf (fun b' hb' => ht b' (by
                have hjl := lt_of_get he'
                rcases Nat.lt_or_gt_of_ne hj with hlt | hgt
                · simp only [List.cons_append, List.mem_cons, List.mem_append]
                  exact .inr (.inl (.inl (mem_flat hlt hb')))
                · simp only [List.cons_append, List.mem_cons, List.mem_append]
                  refine .inr (.inr (.inr (List.mem_flatMap.2 ⟨j - (i + 1), List.mem_range.2 (by omega), ?_⟩)))
                  rw [show i + 1 + (j - (i + 1)) = j by omega]
                  exact hb'))
          · have h6 := hd hdp e (List.mem_of_getElem? he)
            obtain ⟨_, _, _, _, _, h7, _⟩ : ∃ s nl sz dp l, e = .sl (some s) nl sz dp l ∧ True := by
              cases hp with
              | nil => exact ⟨_, _, _, _, _, rfl, trivial⟩
              | cons _ _ => exact ⟨_, _, _, _, _, rfl, trivial⟩
            rw [h7] at h6
            cases h6
        rw [e1, hlen] at h5
        simpa using h5
/-- What lies at a place hangs on the holders' blocks alone. -/
theorem path_stay {w' : World} {v c : AV} {ix ss : List Nat} {rb : AV → AV} (hp : Path v ix ss c rb) : ∀ {u : Value} {ts : List Nat}, Rp w F v [u] ts → (∀ b ∈ ts, w'.heap[b]? = w.heap[b]?) → pvI w' ix u = pvI w ix u := by
  induction hp with
  | nil => intro u ts h _; rfl
  | @cons s nl sz dp l i e is ss c rb he hp ih =>
    intro u ts h ht
    cases h with
    | own0 => simp at he
    | own1 => simp at he
    | @own b cap arr ty _ _ _ _ _ cs tf hn hh hc hm hs hl hr hw hd =>
      have hi := lt_of_get he
      have hre := hr i e he
      have hne : ∀ l', e ≠ .agg l' := by
        intro l' h'
        subst h'
        cases hp
      obtain ⟨x, hx, hx1⟩ := hre.one hne
      rw [hx] at hre
      have hsz : sz = 1 := by have := hl i hi; rw [hx] at this; simpa using this.symm
      subst hsz
      have hcell : w.cell? ⟨b, i, none⟩ = some x := by
        rw [cell_of_block hh]
        have := hw i 0 x hi (by rw [hx]; rfl)
        simpa using this
      have hcell' : w'.cell? ⟨b, i, none⟩ = some x := by rw [cell_same (ht b List.mem_cons_self)]; exact hcell
      simp only [pvI, hcell, hcell', Option.bind_some]
      exact ih hre (fun b' hb' => ht b' (List.mem_cons_of_mem _ (mem_flat hi hb')))
end
end Go.Proofs.Ytjihjjbieeofdaa.T
namespace Go.Proofs.Ytjihjjbieeofdaa.T
set_option linter.unusedSimpArgs false
set_option linter.unusedVariables false
open Go Go.RowKit
set_option linter.unusedVariables false
set_option linter.unusedSimpArgs false
structure Gh where
  F : Nat → Prop
  bx : Nat → Option (Nat × Nat)
  tk : Nat → List Nat
/-- A call's beginning. -/
structure Bs where
  w : World
  F : Nat → Prop
  B : Nat → Prop
/-- Since the call's beginning blocks are new, or one of B (boxes handed in) was written; nothing else. -/
structure Bel (W0 : Bs) (w : World) : Prop where
  os : w.os = W0.w.os
  tape : w.tape = W0.w.tape
  output : w.output = W0.w.output
  size : W0.w.heap.size ≤ w.heap.size
  block : ∀ k, k < W0.w.heap.size → ¬ W0.B k → w.heap[k]? = W0.w.heap[k]?
  bb : ∀ k, W0.B k → ∃ arr arr' ty, W0.w.heap[k]? = some (.cells arr ty (0, 0)) ∧ w.heap[k]? = some (.cells arr' ty (0, 0)) ∧ arr'.size = arr.size
theorem Bel.trans {W0 : Bs} {w w' : World} (h : Bel W0 w) (k : Below W0.w.heap.size w w') : Bel W0 w' :=
  ⟨k.os.trans h.os, k.tape.trans h.tape, k.output.trans h.output, Nat.le_trans h.size k.size, fun i hi hb => (k.block i hi).trans (h.block i hi hb), fun i hb => by
    obtain ⟨arr, arr', ty, h1, h2, h3⟩ := h.bb i hb
    have hi := (Array.getElem?_eq_some_iff.1 h1).1
    exact ⟨arr, arr', ty, h1, (k.block i hi).trans h2, h3⟩⟩
theorem Bel.setCell {W0 : Bs} {w : World} (h : Bel W0 w) {b c : Nat} (y : Value) (hb : W0.w.heap.size ≤ b ∨ W0.B b) : Bel W0 (w.setCell ⟨b, c, none⟩ y) := by
  refine ⟨h.os, h.tape, h.output, by simpa [World.setCell] using h.size, fun k hk hn => ?_, fun k hk => ?_⟩
  · rw [Below.heap_setCell w ⟨b, c, none⟩ y k (fun e => by subst e; rcases hb with hb | hb; exact absurd hk (Nat.not_lt.2 hb); exact hn hb)]
    exact h.block k hk hn
  · obtain ⟨arr, arr', ty, h1, h2, h3⟩ := h.bb k hk
    by_cases e : k = b
    · subst e
      refine ⟨arr, arr'.setIfInBounds c y, ty, h1, ?_, by simpa using h3⟩
      simp only [World.setCell]
      rw [Array.getElem?_modify]
      simp [h2]
    · exact ⟨arr, arr', ty, h1, (Below.heap_setCell w ⟨b, c, none⟩ y k e).trans h2, h3⟩
def base (G : Gh) (a : Act) (w : World) (r : Nat) : Option Value :=
  if r < 1000 then some (a.tmps.getD r undef) else (G.bx (r / 1000 - 1)).bind fun p => w.cell? ⟨p.1, r % 1000, none⟩
def pval (G : Gh) (a : Act) (w : World) (r : Nat) (ix : List Nat) : Option Value := (base G a w r).bind (pvI w ix)
def RPv (G : Gh) (g : Nat → AV) (a : Act) (w : World) (r : Nat) (ix ss : List Nat) (x : Value) : Prop := ∀ s nl sz dp l rb, Path (g r) ix ss (.sl (some s) nl sz dp l) rb → pval G a w r ix = some x
def REa (G : Gh) (g : Nat → AV) (a : Act) (w : World) (r : Nat) (ix ss : List Nat) (j u : Nat) (x : Value) : Prop := ∀ s nl sz dp l rb, Path (g r) ix ss (.sl (some s) nl sz dp l) rb → j < l.length → ∃ b len cap, pval G a w r ix = some (.slice (some ⟨b, 0, none⟩) len cap) ∧ x = .pointer (some ⟨b, j * sz + u, none⟩)
/-- A cell (of an aggregate in a slot). -/
def RC (G : Gh) (g : Nat → AV) (a : Act) (w : World) (e : AV) (y : Value) (ts : List Nat) : Prop := match e with
  | .pv r ix ss => ts = [] ∧ y.oneCell' = true ∧ RPv G g a w r ix ss y
  | .agg _ => False
  | e => Rp w G.F e [y] ts
/-- A value without places. -/
def RW (w : World) (F : Nat → Prop) (e : AV) (x : Value) (ts : List Nat) : Prop := match e with
  | .agg l => ∃ arr, x = .agg arr ∧ Rp w F (.agg l) arr.toList ts
  | .any => ts = []
  | e => Rp w F e [x] ts
/-- A slot's value. -/
def RV (G : Gh) (g : Nat → AV) (a : Act) (w : World) (v : AV) (x : Value) (ts : List Nat) : Prop := match v with
  | .any => ts = []
  | .ptr n off => ts = [] ∧ ∃ b z, G.bx n = some (b, z) ∧ x = .pointer (some ⟨b, off, none⟩)
  | .pv r ix ss => ts = [] ∧ x.oneCell' = true ∧ RPv G g a w r ix ss x
  | .psl l => ts = [] ∧ ∃ b0 cap, x = .slice (some ⟨b0, 0, none⟩) l.length cap ∧ G.F b0 ∧ ∀ (j n off : Nat), l[j]? = some (n, off) → ∃ b z, G.bx n = some (b, z) ∧ w.cell? ⟨b0, j, none⟩ = some (.pointer (some ⟨b, off, none⟩))
  | .pfa n off => ts = [] ∧ ∃ b z b0 j, G.bx n = some (b, z) ∧ G.F b0 ∧ x = .pointer (some ⟨b0, j, none⟩) ∧ w.cell? ⟨b0, j, none⟩ = some (.pointer (some ⟨b, off, none⟩))
  | .ea r ix ss j u => ts = [] ∧ REa G g a w r ix ss j u x
  | .agg l => ∃ arr : Array Value, x = .agg arr ∧ arr.size = l.length ∧ ∃ tf : Nat → List Nat, ts = (List.range l.length).flatMap tf ∧ ∀ j e y, l[j]? = some e → arr[j]? = some y → RC G g a w e y (tf j)
  | .tup l => ∃ vs : Array Value, x = .tuple vs ∧ vs.size = l.length ∧ ∃ tf : Nat → List Nat, ts = (List.range l.length).flatMap tf ∧ ∀ j e y, l[j]? = some e → vs[j]? = some y → RW w G.F e y (tf j)
  | v => Rp w G.F v [x] ts
/-- A box's cell. -/
structure RB (w : World) (F : Nat → Prop) (e : AV) (y : Value) (ts : List Nat) : Prop where
  rp : Rp w F e [y] ts
  na : ∀ l', e ≠ AV.agg l'
theorem RB.mono {w : World} {F F' : Nat → Prop} {e : AV} {y : Value} {ts : List Nat} (h : RB w F e y ts) (hF : ∀ b, F b → F' b) : RB w F' e y ts := ⟨h.rp.mono hF, h.na⟩
theorem RB.move {w w' : World} {F F' : Nat → Prop} {e : AV} {y : Value} {ts : List Nat} (h : RB w F e y ts) (hF : ∀ b, F b → F' b) (h1 : ∀ b, F b → w'.heap[b]? = w.heap[b]?) (h2 : ∀ b ∈ ts, w'.heap[b]? = w.heap[b]?) : RB w' F' e y ts := ⟨h.rp.move hF h1 h2, h.na⟩
structure Rel (W0 : Bs) (N : Nat) (G : Gh) (g : Nat → AV) (a : Act) (w : World) (X : List Nat) : Prop where
  hN : N ≤ 1000
  hs : a.tmps.size = N
  hd : a.defers = []
  fr : Bel W0 w
  sl : ∀ t, t < N → RV G g a w (g t) (a.tmps.getD t undef) (G.tk t)
  sz : ∀ t, N ≤ t → t < 1000 → g t = .any
  bx : ∀ n b z, G.bx n = some (b, z) → z ≤ 900 ∧ (W0.w.heap.size ≤ b ∨ W0.B b) ∧ b < w.heap.size ∧ ¬ G.F b ∧ ∃ arr ty, w.heap[b]? = some (.cells arr ty (0, 0)) ∧ arr.size = z ∧ ∀ c y, c < z → arr[c]? = some y → RB w G.F (g (loc n c)) y (G.tk (loc n c))
  bn : ∀ n, g (loc n 999) = .any → G.bx n = none
  bs : ∀ n b z, G.bx n = some (b, z) → ∀ z', g (loc n 999) = .i .i64 z' → z' = z
  bi : ∀ n m b z z', G.bx n = some (b, z) → G.bx m = some (b, z') → n = m
  tk : ∀ l b, b ∈ G.tk l → W0.w.heap.size ≤ b ∧ b < w.heap.size ∧ ¬ G.F b ∧ ∀ n z, G.bx n ≠ some (b, z)
  tn : ∀ l, (G.tk l).Nodup
  td : ∀ l l' b, b ∈ G.tk l → b ∈ G.tk l' → l = l'
  F : ∀ b, G.F b → b < w.heap.size
  f0 : ∀ b, G.F b → W0.F b ∨ W0.w.heap.size ≤ b
  xb : ∀ b ∈ X, W0.w.heap.size ≤ b ∧ b < w.heap.size ∧ ¬ G.F b ∧ (∀ n z, G.bx n ≠ some (b, z)) ∧ ∀ l, b ∉ G.tk l
  xn : X.Nodup
  p0 : ∀ b, W0.B b → ∀ z, g (loc 2000 999) = .i .i64 z → ∃ z', G.bx 2000 = some (b, z')
/-- No path is new. -/
def Pk (g g' : Nat → AV) : Prop := ∀ r ix ss s nl sz dp l rb, Path (g' r) ix ss (.sl (some s) nl sz dp l) rb → ∃ nl0 dp0 l0 rb0, Path (g r) ix ss (.sl (some s) nl0 sz dp0 l0) rb0 ∧ l0.length = l.length
theorem Pk.refl (g : Nat → AV) : Pk g g := fun r ix ss s nl sz dp l rb h => ⟨nl, dp, l, rb, h, rfl⟩
section
variable {W0 : Bs} {N : Nat} {G G' : Gh} {g g' : Nat → AV} {a a' : Act} {w w' : World} {X X' : List Nat}
theorem RPv.mono {r : Nat} {ix ss : List Nat} {x : Value} (h : RPv G g a w r ix ss x) (hp : ∀ s nl sz dp l rb, Path (g' r) ix ss (.sl (some s) nl sz dp l) rb → ∃ nl0 dp0 l0 rb0, Path (g r) ix ss (.sl (some s) nl0 sz dp0 l0) rb0 ∧ l0.length = l.length ∧ ∀ y, pval G a w r ix = some y → pval G' a' w' r ix = some y) : RPv G' g' a' w' r ix ss x := by
  intro s nl sz dp l rb h1
  obtain ⟨nl0, dp0, l0, rb0, h2, _, h3⟩ := hp s nl sz dp l rb h1
  exact h3 _ (h s nl0 sz dp0 l0 rb0 h2)
theorem REa.mono {r j u : Nat} {ix ss : List Nat} {x : Value} (h : REa G g a w r ix ss j u x) (hp : ∀ s nl sz dp l rb, Path (g' r) ix ss (.sl (some s) nl sz dp l) rb → ∃ nl0 dp0 l0 rb0, Path (g r) ix ss (.sl (some s) nl0 sz dp0 l0) rb0 ∧ l0.length = l.length ∧ ∀ y, pval G a w r ix = some y → pval G' a' w' r ix = some y) : REa G' g' a' w' r ix ss j u x := by
  intro s nl sz dp l rb h1 hj
  obtain ⟨nl0, dp0, l0, rb0, h2, h4, h3⟩ := hp s nl sz dp l rb h1
  obtain ⟨b, len, cap, h5, h6⟩ := h s nl0 sz dp0 l0 rb0 h2 (by omega)
  exact ⟨b, len, cap, h3 _ h5, h6⟩
/-- A slot's value stays what it is. -/
theorem RV.mono {v : AV} {x : Value} {ts : List Nat} (h : RV G g a w v x ts) (hF : ∀ b, G.F b → G'.F b) (h1 : ∀ b, G.F b → w'.heap[b]? = w.heap[b]?) (h2 : ∀ b ∈ ts, w'.heap[b]? = w.heap[b]?) (hb : ∀ n, n ∈ v.pbx → G'.bx n = G.bx n)
    (hp : ∀ r ix ss, (∀ x ∈ ss, x ∈ v.pst) → ∀ s nl sz dp l rb, Path (g' r) ix ss (.sl (some s) nl sz dp l) rb → ∃ nl0 dp0 l0 rb0, Path (g r) ix ss (.sl (some s) nl0 sz dp0 l0) rb0 ∧ l0.length = l.length ∧ ∀ y, pval G a w r ix = some y → pval G' a' w' r ix = some y) : RV G' g' a' w' v x ts := by
  cases v with
  | any => exact h
  | ptr n off =>
    obtain ⟨h3, b, z, h4, h5⟩ := h
    exact ⟨h3, b, z, by rw [hb n List.mem_cons_self]; exact h4, h5⟩
  | psl l =>
    obtain ⟨h3, b0, cap, h4, h5, h6⟩ := h
    refine ⟨h3, b0, cap, h4, hF _ h5, fun j n off hj => ?_⟩
    obtain ⟨b, z, h7, h8⟩ := h6 j n off hj
    exact ⟨b, z, by rw [hb n (List.mem_map.2 ⟨_, List.mem_of_getElem? hj, rfl⟩)]; exact h7, by rw [cell_same (h1 _ h5)]; exact h8⟩
  | pfa n off =>
    obtain ⟨h3, b, z, b0, j, h4, h5, h6, h7⟩ := h
    exact ⟨h3, b, z, b0, j, by rw [hb n List.mem_cons_self]; exact h4, hF _ h5, h6, by rw [cell_same (h1 _ h5)]; exact h7⟩
  | pv r ix ss => exact ⟨h.1, h.2.1, h.2.2.mono (hp r ix ss (fun x hx => hx))⟩
  | ea r ix ss j u => exact ⟨h.1, h.2.mono (hp r ix ss (fun x hx => hx))⟩
  | agg l =>
    obtain ⟨arr, h3, h4, tf, h5, h6⟩ := h
    refine ⟨arr, h3, h4, tf, h5, fun j e y he hy => ?_⟩
    have h7 := h6 j e y he hy
    have h8 : ∀ b ∈ tf j, w'.heap[b]? = w.heap[b]? := fun b hb => h2 b (by rw [h5]; exact mem_flat (lt_of_get he) hb)
    cases e with
    | pv r ix ss => exact ⟨h7.1, h7.2.1, h7.2.2.mono (hp r ix ss (fun x hx => List.mem_flatMap.2 ⟨_, List.mem_of_getElem? he, hx⟩))⟩
    | agg l' => exact h7.elim
    | _ => exact Rp.move h7 hF h1 h8
  | tup l =>
    obtain ⟨vs, h3, h4, tf, h5, h6⟩ := h
    refine ⟨vs, h3, h4, tf, h5, fun j e y he hy => ?_⟩
    have h7 := h6 j e y he hy
    have h8 : ∀ b ∈ tf j, w'.heap[b]? = w.heap[b]? := fun b hb => h2 b (by rw [h5]; exact mem_flat (lt_of_get he) hb)
    cases e with
    | any => exact h7
    | agg l' =>
      obtain ⟨arr, h9, h10⟩ := h7
      exact ⟨arr, h9, h10.move hF h1 h8⟩
    | _ => exact Rp.move h7 hF h1 h8
  | _ => exact Rp.move h hF h1 h2
/-- Boxes that are told are there. -/
theorem RV.pbx {v : AV} {x : Value} {ts : List Nat} (h : RV G g a w v x ts) {n : Nat} (hn : n ∈ v.pbx) : ∃ p, G.bx n = some p := by
  cases v with
  | ptr m off =>
    have e : n = m := by simpa [AV.pbx] using hn
    subst e
    obtain ⟨_, b, z, hb, _⟩ := h; exact ⟨_, hb⟩
  | pfa m off =>
    have e : n = m := by simpa [AV.pbx] using hn
    subst e
    obtain ⟨_, b, z, _, _, hb, _⟩ := h; exact ⟨_, hb⟩
  | psl l =>
    obtain ⟨_, b0, cap, _, _, h6⟩ := h
    obtain ⟨⟨m, off⟩, hm, e⟩ := List.mem_map.1 hn
    have e : m = n := e
    subst e
    obtain ⟨j, hj⟩ := List.mem_iff_getElem?.1 hm
    obtain ⟨b, z, h7, _⟩ := h6 j m off hj
    exact ⟨_, h7⟩
  | _ => cases hn
theorem loc_ge (n c : Nat) : 1000 ≤ loc n c := by unfold loc; omega
theorem loc_inj {n c n' c' : Nat} (hc : c < 1000) (hc' : c' < 1000) (h : loc n c = loc n' c') : n = n' ∧ c = c' := by unfold loc at h; omega
theorem base_loc {n c : Nat} (hc : c < 1000) : base G a w (loc n c) = (G.bx n).bind fun p => w.cell? ⟨p.1, c, none⟩ := by
  unfold base loc
  rw [if_neg (by omega), show (1000 * (n + 1) + c) / 1000 - 1 = n by omega, show (1000 * (n + 1) + c) % 1000 = c by omega]
theorem base_slot {t : Nat} (ht : t < 1000) : base G a w t = some (a.tmps.getD t undef) := by unfold base; rw [if_pos ht]
/-- What the root of a path holds. -/
theorem Rel.root (h : Rel W0 N G g a w X) {r : Nat} (hr : r < N ∨ ∃ n c b z, r = loc n c ∧ G.bx n = some (b, z) ∧ c < z) (ho : ∃ s nl sz dp l, g r = .sl (some s) nl sz dp l) : ∃ u, base G a w r = some u ∧ Rp w G.F (g r) [u] (G.tk r) := by
  rcases hr with hr | ⟨n, c, b, z, rfl, hb, hc⟩
  · refine ⟨_, base_slot (by have := h.hN; omega), ?_⟩
    have := h.sl r hr
    obtain ⟨s, nl, sz, dp, l, e⟩ := ho
    rw [e] at this ⊢
    exact this
  · obtain ⟨hz, _, _, _, arr, ty, hh, hsz, hcell⟩ := h.bx n b z hb
    have hy : arr[c]? = some (arr[c]'(by omega)) := Array.getElem?_eq_getElem (by omega)
    refine ⟨_, ?_, (hcell c _ hc hy).rp⟩
    rw [base_loc (by omega), hb, Option.bind_some, cell_of_block hh, hy]
/-- Re-arranged: the frame and the world stay. -/
theorem Rel.re (h : Rel W0 N G g a w X) (hF : ∀ b, G.F b → G'.F b) (hbx : G'.bx = G.bx) (hp : Pk g g')
    (hl : ∀ l, (g' l = g l ∧ G'.tk l = G.tk l) ∨ ((l < N → RV G' g' a w (g' l) (a.tmps.getD l undef) (G'.tk l)) ∧ (∀ n b z c y, l = loc n c → G.bx n = some (b, z) → c < z → w.cell? ⟨b, c, none⟩ = some y → RB w G'.F (g' l) y (G'.tk l))))
    (hsz : ∀ t, N ≤ t → t < 1000 → g t = .any → g' t = .any) (hfl : ∀ n, (g' (loc n 999) = .any → g (loc n 999) = .any) ∧ ∀ z, g' (loc n 999) = .i .i64 z → g (loc n 999) = .i .i64 z)
    (tk : ∀ l b, b ∈ G'.tk l → W0.w.heap.size ≤ b ∧ b < w.heap.size ∧ ¬ G'.F b ∧ ∀ n z, G'.bx n ≠ some (b, z)) (tn : ∀ l, (G'.tk l).Nodup) (td : ∀ l l' b, b ∈ G'.tk l → b ∈ G'.tk l' → l = l') (hFb : ∀ b, G'.F b → b < w.heap.size) (hF0 : ∀ b, G'.F b → G.F b ∨ W0.w.heap.size ≤ b) (hFx : ∀ b, G'.F b → ∀ n z, G'.bx n ≠ some (b, z))
    (xb : ∀ b ∈ X', W0.w.heap.size ≤ b ∧ b < w.heap.size ∧ ¬ G'.F b ∧ (∀ n z, G'.bx n ≠ some (b, z)) ∧ ∀ l, b ∉ G'.tk l) (xn : X'.Nodup) : Rel W0 N G' g' a w X' where
  hN := h.hN
  hs := h.hs
  hd := h.hd
  fr := h.fr
  sl := by
    have hpv : ∀ r ix, pval G' a w r ix = pval G a w r ix := fun r ix => by unfold pval base; rw [hbx]
    intro t ht
    rcases hl t with ⟨h1, h2⟩ | ⟨h1, _⟩
    · rw [h1, h2]
      exact (h.sl t ht).mono hF (fun _ _ => rfl) (fun _ _ => rfl) (fun n _ => by rw [hbx]) (fun r ix ss _ s nl sz dp l rb hpa => by obtain ⟨x1, x2, x3, x4, x5, x6⟩ := hp r ix ss s nl sz dp l rb hpa; exact ⟨x1, x2, x3, x4, x5, x6, fun y hy => by rw [hpv]; exact hy⟩)
    · exact h1 ht
  sz := fun t h1 h2 => hsz t h1 h2 (h.sz t h1 h2)
  bx := by
    intro n b z hb
    rw [hbx] at hb
    obtain ⟨h1, h2, h3, h4, arr, ty, h5, h6, h7⟩ := h.bx n b z hb
    refine ⟨h1, h2, h3, fun hf => hFx b hf n z (by rw [hbx]; exact hb), arr, ty, h5, h6, fun c y hc hy => ?_⟩
    rcases hl (loc n c) with ⟨e1, e2⟩ | ⟨_, e1⟩
    · rw [e1, e2]; exact (h7 c y hc hy).mono hF
    · exact e1 n b z c y rfl hb hc (by rw [cell_of_block h5]; exact hy)
  bn := fun n hn => by rw [hbx]; exact h.bn n ((hfl n).1 hn)
  bs := fun n b z hb z' hz => by rw [hbx] at hb; exact h.bs n b z hb z' ((hfl n).2 z' hz)
  bi := by rw [hbx]; exact h.bi
  tk := tk
  tn := tn
  td := td
  F := hFb
  f0 := fun b hb => (hF0 b hb).elim (h.f0 b) .inr
  xb := xb
  xn := xn
  p0 := fun b hb z hz => by rw [hbx]; exact h.p0 b hb z ((hfl 2000).2 z hz)
/-- The world changes in X's blocks alone, or grows. -/
theorem Rel.world (h : Rel W0 N G g a w X) (hb : Below W0.w.heap.size w w') (hk : ∀ b, b < w.heap.size → b ∉ X → w'.heap[b]? = w.heap[b]?) : Rel W0 N G g a w' X := by
  have hF : ∀ b, G.F b → w'.heap[b]? = w.heap[b]? := fun b hf => hk b (h.F b hf) (fun hx => (h.xb b hx).2.2.1 hf)
  have ht : ∀ l, ∀ b ∈ G.tk l, w'.heap[b]? = w.heap[b]? := fun l b hl => hk b (h.tk l b hl).2.1 (fun hx => (h.xb b hx).2.2.2.2 l hl)
  have hx : ∀ n b z, G.bx n = some (b, z) → w'.heap[b]? = w.heap[b]? := fun n b z hn => hk b (h.bx n b z hn).2.2.1 (fun hx => (h.xb b hx).2.2.2.1 n z hn)
  have hpv : ∀ r ix ss s nl sz dp l rb, Path (g r) ix ss (.sl (some s) nl sz dp l) rb → ∀ y, pval G a w r ix = some y → pval G a w' r ix = some y := by
    intro r ix ss s nl sz dp l rb hp y hy
    obtain ⟨u, hu, hy2⟩ := Option.bind_eq_some_iff.1 hy
    rcases ix with _ | ⟨i, is⟩
    · have hu' : base G a w' r = some u := by
        by_cases hr : r < 1000
        · rw [base_slot hr] at hu ⊢; exact hu
        · unfold base at hu ⊢
          rw [if_neg hr] at hu ⊢
          obtain ⟨p, hp1, hp2⟩ := Option.bind_eq_some_iff.1 hu
          rw [hp1, Option.bind_some, cell_same (hx _ p.1 p.2 hp1)]; exact hp2
      unfold pval; rw [hu', Option.bind_some]; exact hy2
    · have hr : r < N ∨ ∃ n c b z, r = loc n c ∧ G.bx n = some (b, z) ∧ c < z := by
        by_cases hr : r < 1000
        · refine .inl (Nat.lt_of_not_le (fun hle => ?_))
          rw [base_slot hr] at hu
          have e : a.tmps.getD r undef = undef := by
            rw [Array.getD_eq_getD_getElem?, Array.getElem?_eq_none (by rw [h.hs]; exact hle)]; rfl
          rw [e] at hu
          cases hu
          simp [pvI, undef] at hy2
        · unfold base at hu
          rw [if_neg hr] at hu
          obtain ⟨⟨b, z⟩, hp1, hp2⟩ := Option.bind_eq_some_iff.1 hu
          obtain ⟨_, _, _, _, arr, ty, hh, hsz, _⟩ := h.bx _ b z hp1
          refine .inr ⟨r / 1000 - 1, r % 1000, b, z, by unfold loc; omega, hp1, ?_⟩
          rw [cell_of_block hh] at hp2
          have := (Array.getElem?_eq_some_iff.1 hp2).1
          omega
      obtain ⟨u1, hu1, hrp⟩ := h.root hr (by generalize g r = v at hp; cases hp with | cons _ _ => exact ⟨_, _, _, _, _, rfl⟩)
      have hu' : base G a w' r = some u := by
        rcases hr with hr | ⟨n, c, b, z, rfl, hb', hc⟩
        · rw [base_slot (by have := h.hN; omega)] at hu ⊢; exact hu
        · rw [base_loc (by have := (h.bx n b z hb').1; omega), hb', Option.bind_some] at hu ⊢
          rw [cell_same (hx n b z hb')]; exact hu
      rw [hu] at hu1
      cases hu1
      unfold pval
      rw [hu', Option.bind_some, path_stay hp hrp (ht r)]
      exact hy2
  have hsz : w.heap.size ≤ w'.heap.size := hb.size
  refine ⟨h.hN, h.hs, h.hd, h.fr.trans hb, fun t ht' => ?_, h.sz, fun n b z hn => ?_, h.bn, h.bs, h.bi, fun l b hl => ?_, h.tn, h.td, fun b hf => Nat.lt_of_lt_of_le (h.F b hf) hsz, h.f0, fun b hx' => ?_, h.xn, h.p0⟩
  · exact (h.sl t ht').mono (fun _ hf => hf) hF (ht t) (fun _ _ => rfl) (fun r ix ss _ s nl sz dp l rb hp => ⟨nl, dp, l, rb, hp, rfl, hpv r ix ss s nl sz dp l rb hp⟩)
  · obtain ⟨h1, h2, h3, h4, arr, ty, h5, h6, h7⟩ := h.bx n b z hn
    exact ⟨h1, h2, Nat.lt_of_lt_of_le h3 hsz, h4, arr, ty, (hx n b z hn).trans h5, h6, fun c y hc hy => (h7 c y hc hy).move (fun _ hf => hf) hF (ht _)⟩
  · obtain ⟨h1, h2, h3⟩ := h.tk l b hl
    exact ⟨h1, Nat.lt_of_lt_of_le h2 hsz, h3⟩
  · obtain ⟨h1, h2, h3⟩ := h.xb b hx'
    exact ⟨h1, Nat.lt_of_lt_of_le h2 hsz, h3⟩
def upd {α : Type} (f : Nat → α) (l : Nat) (x : α) : Nat → α := fun j => if j = l then x else f j
theorem upd_self {α : Type} (f : Nat → α) (l : Nat) (x : α) : upd f l x l = x := by simp [upd]
theorem upd_ne {α : Type} {f : Nat → α} {l j : Nat} {x : α} (h : j ≠ l) : upd f l x j = f j := by simp [upd, h]
theorem path_top {v c : AV} {ix ss : List Nat} {rb : AV → AV} (h : Path v ix ss c rb) : ∃ s nl sz dp l, v = .sl (some s) nl sz dp l ∧ s ∈ ss := by
  cases h with
  | nil => exact ⟨_, _, _, _, _, rfl, List.mem_cons_self⟩
  | cons _ _ => exact ⟨_, _, _, _, _, rfl, List.mem_cons_self⟩
/-- A value at a place: its root is there. -/
theorem Rel.rootOk (h : Rel W0 N G g a w X) {r : Nat} {ix ss : List Nat} {c : AV} {rb : AV → AV} {x : Value} (hp : Path (g r) ix ss c rb) (hx : pval G a w r ix = some x) (h1 : x.oneCell' = true) : (r < N ∨ ∃ n c b z, r = loc n c ∧ G.bx n = some (b, z) ∧ c < z) ∧ ∃ u, base G a w r = some u ∧ pvI w ix u = some x ∧ Rp w G.F (g r) [u] (G.tk r) := by
  obtain ⟨u, hu, hy2⟩ := Option.bind_eq_some_iff.1 hx
  have hr : r < N ∨ ∃ n c b z, r = loc n c ∧ G.bx n = some (b, z) ∧ c < z := by
    by_cases hr : r < 1000
    · refine .inl (Nat.lt_of_not_le (fun hle => ?_))
      rw [base_slot hr] at hu
      have e : a.tmps.getD r undef = undef := by
        rw [Array.getD_eq_getD_getElem?, Array.getElem?_eq_none (by rw [h.hs]; exact hle)]; rfl
      rw [e] at hu
      cases hu
      cases ix with
      | nil => simp [pvI] at hy2; subst hy2; simp [undef, Value.oneCell'] at h1
      | cons i is => simp [pvI, undef] at hy2
    · unfold base at hu
      rw [if_neg hr] at hu
      obtain ⟨⟨b, z⟩, hp1, hp2⟩ := Option.bind_eq_some_iff.1 hu
      obtain ⟨_, _, _, _, arr, ty, hh, hsz, _⟩ := h.bx _ b z hp1
      refine .inr ⟨r / 1000 - 1, r % 1000, b, z, by unfold loc; omega, hp1, ?_⟩
      rw [cell_of_block hh] at hp2
      have := (Array.getElem?_eq_some_iff.1 hp2).1
      omega
  obtain ⟨s, nl, sz, dp, l, e, _⟩ := path_top hp
  obtain ⟨u1, hu1, hrp⟩ := h.root hr ⟨s, nl, sz, dp, l, e⟩
  rw [hu] at hu1
  cases hu1
  exact ⟨hr, u, hu, hy2, hrp⟩
theorem path_rb {v c : AV} {ix ss : List Nat} {rb : AV → AV} (hp : Path v ix ss c rb) {c' : AV} (hc : c'.own1 = false) : ∀ {ix2 ss2 : List Nat} {s : Nat} {nl : Option Bool} {sz : Nat} {dp : Bool} {l : List AV} {rb2 : AV → AV}, Path (rb c') ix2 ss2 (.sl (some s) nl sz dp l) rb2 → ∃ nl0 dp0 l0 rb0, Path v ix2 ss2 (.sl (some s) nl0 sz dp0 l0) rb0 ∧ l0.length = l.length := by
  induction hp with
  | nil =>
    intro ix2 ss2 s nl sz dp l rb2 h
    obtain ⟨_, _, _, _, _, e, _⟩ := path_top h
    have e : c' = _ := e
    rw [e] at hc; cases hc
  | @cons s0 nl0 sz0 dp0 l0 i e is ss c rb he hp ih =>
    intro ix2 ss2 s nl sz dp l rb2 h
    cases h with
    | nil => exact ⟨_, _, l0, _, .nil, by simp⟩
    | @cons _ _ _ _ _ j e2 is2 ss3 _ rb3 he2 h2 =>
      by_cases hj : j = i
      · subst hj
        rw [List.getElem?_set_self (lt_of_get he)] at he2
        cases he2
        obtain ⟨x1, x2, x3, x4, x5, x6⟩ := ih h2
        exact ⟨x1, x2, x3, _, .cons he x5, x6⟩
      · rw [List.getElem?_set_ne (fun h => hj h.symm)] at he2
        exact ⟨_, _, _, _, .cons he2 h2, rfl⟩
theorem Pk.upd {r : Nat} {ix ss : List Nat} {c c' : AV} {rb : AV → AV} (hp : Path (g r) ix ss c rb) (hc : c'.own1 = false) : Pk g (upd g r (rb c')) := by
  intro r2 ix2 ss2 s nl sz dp l rb2 h
  by_cases e : r2 = r
  · subst e; rw [upd_self] at h; exact path_rb hp hc h
  · rw [upd_ne e] at h; exact ⟨nl, dp, l, rb2, h, rfl⟩
/-- Tokens, when one place keeps only some of its. -/
theorem Rel.toks (h : Rel W0 N G g a w X) {r : Nat} {q : List Nat} (hq : ∀ b ∈ q, b ∈ G.tk r) (hn : q.Nodup) : (∀ l, (upd G.tk r q l).Nodup) ∧ (∀ l l' b, b ∈ upd G.tk r q l → b ∈ upd G.tk r q l' → l = l') ∧ ∀ l b, b ∈ upd G.tk r q l → b ∈ G.tk l := by
  have sub : ∀ l b, b ∈ upd G.tk r q l → b ∈ G.tk l := by
    intro l b hb
    by_cases e : l = r
    · subst e; rw [upd_self] at hb; exact hq b hb
    · rwa [upd_ne e] at hb
  refine ⟨fun l => ?_, fun l l' b h1 h2 => h.td l l' b (sub l b h1) (sub l' b h2), sub⟩
  by_cases e : l = r
  · subst e; rw [upd_self]; exact hn
  · rw [upd_ne e]; exact h.tn l
def AV.flat : AV → Bool
  | .agg _ | .tup _ | .ptr _ _ | .pv _ _ _ | .ea _ _ _ _ _ | .psl _ | .pfa _ _ => false
  | _ => true
theorem nagg_flat {v : AV} (h : v.flat = true) : ∀ l', v ≠ AV.agg l' := fun l' e => by subst e; cases h
theorem RV.of {v : AV} {x : Value} {ts : List Nat} (h : Rp w G.F v [x] ts) (hv : v.flat = true) : RV G g a w v x ts := by
  cases v with
  | any => cases h; exact rfl
  | agg | tup | ptr | pv | ea | psl | pfa => cases hv
  | _ => exact h
theorem path_flat {v c c' : AV} {ix ss : List Nat} {rb : AV → AV} (hp : Path v ix ss c rb) (hc : c'.flat = true) : (rb c').flat = true := by
  cases hp with
  | nil => exact hc
  | cons _ _ => rfl
/-- What a place holds is taken out of it. -/
theorem Rel.takeP (h : Rel W0 N G g a w X) {r : Nat} {ix ss : List Nat} {c : AV} {rb : AV → AV} {x : Value} (hp : Path (g r) ix ss c rb) (hx : pval G a w r ix = some x) (h1 : x.oneCell' = true) (hfl : ∀ n, r ≠ loc n 999) :
    ∃ G' tp, Rel W0 N G' (upd g r (rb .any)) a w (tp ++ X) ∧ Rp w G'.F c [x] tp ∧ G'.F = G.F ∧ G'.bx = G.bx ∧ (∀ l b, b ∈ G'.tk l → b ∈ G.tk l) := by
  obtain ⟨hr, u, hu, hux, hrp⟩ := h.rootOk hp hx h1
  obtain ⟨vp, tp, pre, post, e1, e2, e3, e4⟩ := path_rep hp hrp
  rw [e1] at hux
  cases hux
  have hnd := h.tn r
  rw [e3] at hnd
  have hn2 : (pre ++ post).Nodup := by
    rw [List.append_assoc] at hnd
    rw [List.nodup_append] at hnd ⊢
    obtain ⟨n1, n2, n3⟩ := hnd
    rw [List.nodup_append] at n2
    exact ⟨n1, n2.2.1, fun x hx y hy => n3 x hx y (List.mem_append_right _ hy)⟩
  obtain ⟨t1, t2, t3⟩ := h.toks (r := r) (q := pre ++ post) (fun b hb => by rw [e3]; simp at hb ⊢; rcases hb with hb | hb <;> simp [hb]) hn2
  have hnew : Rp w G.F (rb .any) [u] (pre ++ post) := by
    have := e4 w G.F .any [] (fun _ hf => hf) (fun _ _ => rfl) (fun _ _ => rfl) (fun _ => rfl) (.any h1)
    simpa using this
  have htp : ∀ b ∈ tp, b ∈ G.tk r := fun b hb => by rw [e3]; simp [hb]
  refine ⟨⟨G.F, G.bx, upd G.tk r (pre ++ post)⟩, tp, h.re (fun _ hf => hf) rfl (Pk.upd hp rfl) (fun l => ?_) (fun t ht1 ht2 ht3 => ?_) (fun n => ?_) (fun l b hb => h.tk l b (t3 l b hb)) t1 t2 h.F (fun _ hf => .inl hf) (fun b hf n z hb => (h.bx n b z hb).2.2.2.1 hf) (fun b hb => ?_) ?_, e2, rfl, rfl, t3⟩
  · by_cases e : l = r
    · subst e
      refine .inr ⟨fun hl => ?_, fun n b z c y hl hb hc hy => ?_⟩
      · rw [base_slot (by have := h.hN; omega)] at hu
        cases hu
        rw [upd_self]; dsimp only; rw [upd_self]
        exact RV.of hnew (path_flat hp rfl)
      · subst hl
        rw [base_loc (by have := (h.bx n b z hb).1; omega), hb, Option.bind_some, hy] at hu
        cases hu
        rw [upd_self]; dsimp only; rw [upd_self]
        exact ⟨hnew, nagg_flat (path_flat hp rfl)⟩
    · exact .inl ⟨upd_ne e, upd_ne e⟩
  · rw [upd_ne (fun e => by subst e; rw [ht3] at hp; cases hp)]; exact ht3
  · rw [upd_ne (fun e => hfl n e.symm)]; exact ⟨fun hn => hn, fun z hz => hz⟩
  · rcases List.mem_append.1 hb with hb | hb
    · obtain ⟨x1, x2, x3, x4⟩ := h.tk r b (htp b hb)
      refine ⟨x1, x2, x3, x4, fun l hl => ?_⟩
      have hl' := t3 l b hl
      have e := h.td l r b hl' (htp b hb)
      subst e
      dsimp only at hl
      rw [upd_self] at hl
      rw [List.append_assoc] at hnd
      obtain ⟨n1, n2, n3⟩ := List.nodup_append.1 hnd
      obtain ⟨m1, m2, m3⟩ := List.nodup_append.1 n2
      rcases List.mem_append.1 hl with hl | hl
      · exact n3 b hl b (List.mem_append_left _ hb) rfl
      · exact m3 b hb b hl rfl
    · obtain ⟨x1, x2, x3, x4, x5⟩ := h.xb b hb
      exact ⟨x1, x2, x3, x4, fun l hl => x5 l (t3 l b hl)⟩
  · rw [List.append_assoc] at hnd
    obtain ⟨n1, n2, n3⟩ := List.nodup_append.1 hnd
    refine List.nodup_append.2 ⟨(List.nodup_append.1 n2).1, h.xn, fun x hx y hy e => ?_⟩
    subst e
    exact (h.xb x hy).2.2.2.2 r (htp x hx)
end
end Go.Proofs.Ytjihjjbieeofdaa.T
namespace Go.Proofs.Ytjihjjbieeofdaa.T
set_option linter.unusedSimpArgs false
set_option linter.unusedVariables false
open Go Go.RowKit
set_option linter.unusedVariables false
set_option linter.unusedSimpArgs false
section
variable {W0 : Bs} {N : Nat} {G G' : Gh} {g g' : Nat → AV} {a a' : Act} {w w' : World} {X X' : List Nat}
theorem fz_own1 (c : AV) : c.fz.own1 = false := by
  cases c with
  | sl o nl sz dp l => cases dp <;> rfl
  | _ => rfl
theorem fz_flat {c : AV} (h : c.flat = true) : c.fz.flat = true := by
  cases c with
  | sl o nl sz dp l => cases dp <;> rfl
  | agg | tup | ptr | pv | ea | psl | pfa => cases h
  | _ => rfl
/-- A place is read only from now on. -/
theorem Rel.fzP (h : Rel W0 N G g a w X) {r : Nat} {ix ss : List Nat} {c : AV} {rb : AV → AV} {x : Value} (hp : Path (g r) ix ss c rb) (hx : pval G a w r ix = some x) (h1 : x.oneCell' = true) (hfl : ∀ n, r ≠ loc n 999) :
    ∃ G', Rel W0 N G' (upd g r (rb c.fz)) a w X ∧ Rp w G'.F c.fz [x] [] ∧ (∀ b, G.F b → G'.F b) ∧ G'.bx = G.bx ∧ (∀ l b, b ∈ G'.tk l → b ∈ G.tk l) := by
  obtain ⟨hr, u, hu, hux, hrp⟩ := h.rootOk hp hx h1
  obtain ⟨vp, tp, pre, post, e1, e2, e3, e4⟩ := path_rep hp hrp
  rw [e1] at hux
  cases hux
  have hnd := h.tn r
  rw [e3, List.append_assoc] at hnd
  obtain ⟨n1, n2, n3⟩ := List.nodup_append.1 hnd
  obtain ⟨m1, m2, m3⟩ := List.nodup_append.1 n2
  have hn2 : (pre ++ post).Nodup := List.nodup_append.2 ⟨n1, m2, fun x hx y hy => n3 x hx y (List.mem_append_right _ hy)⟩
  obtain ⟨t1, t2, t3⟩ := h.toks (r := r) (q := pre ++ post) (fun b hb => by rw [e3]; simp at hb ⊢; rcases hb with hb | hb <;> simp [hb]) hn2
  have htp : ∀ b ∈ tp, b ∈ G.tk r := fun b hb => by rw [e3]; simp [hb]
  have hfz : Rp w (fun b => G.F b ∨ b ∈ tp) c.fz [x] [] := e2.toFz (fun _ hf => .inl hf) (fun _ hb => .inr hb)
  have hnew : Rp w (fun b => G.F b ∨ b ∈ tp) (rb c.fz) [u] (pre ++ post) := by
    have := e4 w (fun b => G.F b ∨ b ∈ tp) c.fz [] (fun _ hf => .inl hf) (fun _ _ => rfl) (fun _ _ => rfl) (fun _ => rfl) hfz
    simpa using this
  have hcf : c.flat = true := by obtain ⟨_, _, _, _, _, e⟩ := hp.own; rw [e]; rfl
  have hnotin : ∀ l b, b ∈ upd G.tk r (pre ++ post) l → b ∉ tp := by
    intro l b hl hb
    have e := h.td l r b (t3 l b hl) (htp b hb)
    subst e
    rw [upd_self] at hl
    rcases List.mem_append.1 hl with hl | hl
    · exact n3 b hl b (List.mem_append_left _ hb) rfl
    · exact m3 b hb b hl rfl
  refine ⟨⟨fun b => G.F b ∨ b ∈ tp, G.bx, upd G.tk r (pre ++ post)⟩, h.re (fun _ hf => .inl hf) rfl (Pk.upd hp (fz_own1 c)) (fun l => ?_) (fun t ht1 ht2 ht3 => ?_) (fun n => ?_) (fun l b hb => ?_) t1 t2 (fun b hb => ?_) (fun b hb => hb.elim .inl (fun hb => .inr (h.tk r b (htp b hb)).1)) (fun b hf n z hb => ?_) (fun b hb => ?_) h.xn, hfz, fun _ hf => .inl hf, rfl, t3⟩
  · by_cases e : l = r
    · subst e
      refine .inr ⟨fun hl => ?_, fun n b z c y hl hb hc hy => ?_⟩
      · rw [base_slot (by have := h.hN; omega)] at hu
        cases hu
        rw [upd_self]; dsimp only; rw [upd_self]
        exact RV.of hnew (path_flat hp (fz_flat hcf))
      · subst hl
        rw [base_loc (by have := (h.bx n b z hb).1; omega), hb, Option.bind_some, hy] at hu
        cases hu
        rw [upd_self]; dsimp only; rw [upd_self]
        exact ⟨hnew, nagg_flat (path_flat hp (fz_flat hcf))⟩
    · exact .inl ⟨upd_ne e, upd_ne e⟩
  · rw [upd_ne (fun e => by subst e; rw [ht3] at hp; cases hp)]; exact ht3
  · rw [upd_ne (fun e => hfl n e.symm)]; exact ⟨fun hn => hn, fun z hz => hz⟩
  · obtain ⟨x1, x2, x3, x4⟩ := h.tk l b (t3 l b hb)
    exact ⟨x1, x2, fun hf => hf.elim x3 (hnotin l b hb), x4⟩
  · rcases hb with hb | hb
    · exact h.F b hb
    · exact (h.tk r b (htp b hb)).2.1
  · rcases hf with hf | hf
    · exact (h.bx n b z hb).2.2.2.1 hf
    · exact (h.tk r b (htp b hf)).2.2.2 n z hb
  · obtain ⟨x1, x2, x3, x4, x5⟩ := h.xb b hb
    exact ⟨x1, x2, fun hf => hf.elim x3 (fun hb' => x5 r (htp b hb')), x4, fun l hl => x5 l (t3 l b hl)⟩
/-- A slot is left empty; what it held is in the air. -/
theorem Rel.takeS (h : Rel W0 N G g a w X) {t : Nat} (ht : t < N) : ∃ G', Rel W0 N G' (upd g t .any) a w (G.tk t ++ X) ∧ G'.F = G.F ∧ G'.bx = G.bx ∧ (∀ l b, b ∈ G'.tk l → b ∈ G.tk l) ∧ (∀ l, l ≠ t → G'.tk l = G.tk l) := by
  obtain ⟨t1, t2, t3⟩ := h.toks (r := t) (q := []) (fun b hb => by cases hb) List.nodup_nil
  refine ⟨⟨G.F, G.bx, upd G.tk t []⟩, h.re (fun _ hf => hf) rfl (fun r ix ss s nl sz dp l rb hp => ?_) (fun l => ?_) (fun t' ht1 ht2 ht3 => ?_) (fun n => ?_) (fun l b hb => h.tk l b (t3 l b hb)) t1 t2 h.F (fun _ hf => .inl hf) (fun b hf n z hb => (h.bx n b z hb).2.2.2.1 hf) (fun b hb => ?_) ?_, rfl, rfl, t3, fun l hl => upd_ne hl⟩
  · by_cases e : r = t
    · subst e; rw [upd_self] at hp
      cases hp
    · rw [upd_ne e] at hp; exact ⟨_, _, _, _, hp, rfl⟩
  · by_cases e : l = t
    · subst e
      refine .inr ⟨fun _ => by rw [upd_self]; dsimp only; rw [upd_self]; exact rfl, fun n b z c y hl => ?_⟩
      have := loc_ge n c
      have := h.hN
      omega
    · exact .inl ⟨upd_ne e, upd_ne e⟩
  · rw [upd_ne (by omega)]; exact ht3
  · rw [upd_ne (fun e => by have := loc_ge n 999; have := h.hN; omega)]; exact ⟨fun hn => hn, fun z hz => hz⟩
  · rcases List.mem_append.1 hb with hb | hb
    · obtain ⟨x1, x2, x3, x4⟩ := h.tk t b hb
      refine ⟨x1, x2, x3, x4, fun l hl => ?_⟩
      have e := h.td l t b (t3 l b hl) hb
      subst e
      dsimp only at hl
      rw [upd_self] at hl
      cases hl
    · obtain ⟨x1, x2, x3, x4, x5⟩ := h.xb b hb
      exact ⟨x1, x2, x3, x4, fun l hl => x5 l (t3 l b hl)⟩
  · exact List.nodup_append.2 ⟨h.tn t, h.xn, fun x hx y hy e => by subst e; exact (h.xb x hy).2.2.2.2 t hx⟩
/-- A slot's holders are read only from now on. -/
theorem Rel.fzS (h : Rel W0 N G g a w X) {t : Nat} (ht : t < N) {v' : AV} (hv : RV ⟨fun b => G.F b ∨ b ∈ G.tk t, G.bx, G.tk⟩ g a w v' (a.tmps.getD t undef) []) (ho : v'.own1 = false) : ∃ G', Rel W0 N G' (upd g t v') a w X ∧ (∀ b, G.F b → G'.F b) ∧ (∀ b ∈ G.tk t, G'.F b) ∧ G'.bx = G.bx ∧ (∀ l b, b ∈ G'.tk l → b ∈ G.tk l) := by
  obtain ⟨t1, t2, t3⟩ := h.toks (r := t) (q := []) (fun b hb => by cases hb) List.nodup_nil
  have hnotin : ∀ l b, b ∈ upd G.tk t [] l → b ∉ G.tk t := by
    intro l b hl hb
    have e := h.td l t b (t3 l b hl) hb
    subst e
    rw [upd_self] at hl; cases hl
  have hpk : Pk g (upd g t v') := fun r ix ss s nl sz dp l rb hp => by
    by_cases e : r = t
    · subst e; rw [upd_self] at hp
      obtain ⟨_, _, _, _, _, e, _⟩ := path_top hp
      rw [e] at ho; cases ho
    · rw [upd_ne e] at hp; exact ⟨_, _, _, _, hp, rfl⟩
  refine ⟨⟨fun b => G.F b ∨ b ∈ G.tk t, G.bx, upd G.tk t []⟩, h.re (fun _ hf => .inl hf) rfl hpk (fun l => ?_) (fun t' ht1 ht2 ht3 => ?_) (fun n => ?_) (fun l b hb => ?_) t1 t2 (fun b hb => ?_) (fun b hb => hb.elim .inl (fun hb => .inr (h.tk t b hb).1)) (fun b hf n z hb => ?_) (fun b hb => ?_) h.xn, fun _ hf => .inl hf, fun _ hb => .inr hb, rfl, t3⟩
  · by_cases e : l = t
    · subst e
      refine .inr ⟨fun _ => ?_, fun n b z c y hl => ?_⟩
      · rw [upd_self]; dsimp only; rw [upd_self]
        exact hv.mono (fun _ hf => hf) (fun _ _ => rfl) (fun _ _ => rfl) (fun _ _ => rfl) (fun r ix ss _ s nl sz dp l rb hp => by
          obtain ⟨x1, x2, x3, x4, x5, x6⟩ := hpk r ix ss s nl sz dp l rb hp
          exact ⟨x1, x2, x3, x4, x5, x6, fun y hy => hy⟩)
      · have := loc_ge n c
        have := h.hN
        omega
    · exact .inl ⟨upd_ne e, upd_ne e⟩
  · rw [upd_ne (by omega)]; exact ht3
  · rw [upd_ne (fun e => by have := loc_ge n 999; have := h.hN; omega)]; exact ⟨fun hn => hn, fun z hz => hz⟩
  · obtain ⟨x1, x2, x3, x4⟩ := h.tk l b (t3 l b hb)
    exact ⟨x1, x2, fun hf => hf.elim x3 (hnotin l b hb), x4⟩
  · rcases hb with hb | hb
    · exact h.F b hb
    · exact (h.tk t b hb).2.1
  · rcases hf with hf | hf
    · exact (h.bx n b z hb).2.2.2.1 hf
    · exact (h.tk t b hf).2.2.2 n z hb
  · obtain ⟨x1, x2, x3, x4, x5⟩ := h.xb b hb
    exact ⟨x1, x2, fun hf => hf.elim x3 (fun hb' => x5 t hb'), x4, fun l hl => x5 l (t3 l b hl)⟩
/-- What is in the air may be let go. -/
theorem Rel.drop (h : Rel W0 N G g a w X) (hs : ∀ b ∈ X', b ∈ X) (hn : X'.Nodup) : Rel W0 N G g a w X' :=
  ⟨h.hN, h.hs, h.hd, h.fr, h.sl, h.sz, h.bx, h.bn, h.bs, h.bi, h.tk, h.tn, h.td, h.F, h.f0, fun b hb => h.xb b (hs b hb), hn, h.p0⟩
/-- The world has grown: new blocks are in the air, or are read only. -/
theorem Rel.grow (h : Rel W0 N G g a w X) (hb : Below w.heap.size w w') {ts : List Nat} (S : Nat → Prop) (hts : ∀ b ∈ ts, w.heap.size ≤ b ∧ b < w'.heap.size) (hn : ts.Nodup) (hS : ∀ b, S b → w.heap.size ≤ b ∧ b < w'.heap.size ∧ b ∉ ts) :
    Rel W0 N ⟨fun b => G.F b ∨ S b, G.bx, G.tk⟩ g a w' (ts ++ X) := by
  have h1 := h.world (hb.mono h.fr.size) (fun b hlt _ => hb.block b hlt)
  refine ⟨h1.hN, h1.hs, h1.hd, h1.fr, fun t ht => ?_, h1.sz, fun n b z hn => ?_, h1.bn, h1.bs, h1.bi, fun l b hl => ?_, h1.tn, h1.td, fun b hf => ?_, fun b hf => hf.elim (h.f0 b) (fun hs => .inr (Nat.le_trans h.fr.size (hS b hs).1)), fun b hx => ?_, ?_, h1.p0⟩
  · exact (h1.sl t ht).mono (fun _ hf => .inl hf) (fun _ _ => rfl) (fun _ _ => rfl) (fun _ _ => rfl) (fun r ix ss _ s nl sz dp l rb hp => ⟨nl, dp, l, rb, hp, rfl, fun y hy => hy⟩)
  · obtain ⟨x1, x2, x3, x4, arr, ty, x5, x6, x7⟩ := h1.bx n b z hn
    exact ⟨x1, x2, x3, fun hf => hf.elim x4 (fun hs => by have := (hS b hs).1; have := (h.bx n b z hn).2.2.1; omega), arr, ty, x5, x6, fun c y hc hy => (x7 c y hc hy).mono (fun _ hf => .inl hf)⟩
  · obtain ⟨x1, x2, x3, x4⟩ := h1.tk l b hl
    exact ⟨x1, x2, fun hf => hf.elim x3 (fun hs => by have := (hS b hs).1; have := (h.tk l b hl).2.1; omega), x4⟩
  · rcases hf with hf | hf
    · exact h1.F b hf
    · exact (hS b hf).2.1
  · rcases List.mem_append.1 hx with hx | hx
    · obtain ⟨x1, x2⟩ := hts b hx
      have := h.fr.size
      exact ⟨by omega, x2, fun hf => hf.elim (fun hf => by have := h.F b hf; omega) (fun hs => (hS b hs).2.2 hx), fun n z hn => by have := (h.bx n b z hn).2.2.1; omega, fun l hl => by have := (h.tk l b hl).2.1; omega⟩
    · obtain ⟨x1, x2, x3, x4, x5⟩ := h1.xb b hx
      exact ⟨x1, x2, fun hf => hf.elim x3 (fun hs => by have := (hS b hs).1; have := (h.xb b hx).2.1; omega), x4, x5⟩
  · exact List.nodup_append.2 ⟨hn, h.xn, fun x hx y hy e => by subst e; have := (hts x hx).1; have := (h.xb x hy).2.1; omega⟩
theorem getD_put {d : Nat} {x : Value} (hd : d < a.tmps.size) (t : Nat) : (a.put (some d) x).tmps.getD t undef = if t = d then x else a.tmps.getD t undef := by
  rw [Array.getD_eq_getD_getElem?, Array.getD_eq_getD_getElem?]
  simp only [Act.put]
  by_cases e : t = d
  · subst e; simp [hd]
  · rw [Array.getElem?_setIfInBounds_ne (fun h => e h.symm), if_neg e]
/-- A value comes into a slot. -/
theorem Rel.put (h : Rel W0 N G g a w X) {d : Nat} (hd : d < N) {v : AV} {x : Value} {td : List Nat} (hv : RV G g a w v x td) (hX : X = td ++ X') (hst : ∀ s nl sz dp l, v = .sl (some s) nl sz dp l → ∀ l', s ∉ (g l').pst) :
    ∃ G', Rel W0 N G' (upd g d v) (a.put (some d) x) w X' ∧ G'.F = G.F ∧ G'.bx = G.bx := by
  subst hX
  obtain ⟨n1, n2, n3⟩ := List.nodup_append.1 h.xn
  -- places: the slot d has another value now; the others are ars they were
  have hpath : ∀ (r : Nat) (ix ss : List Nat), (∀ s ∈ ss, (∃ l', s ∈ (g l').pst) ∨ s ∈ v.pst) → ∀ s nl sz dp l rb, Path (upd g d v r) ix ss (.sl (some s) nl sz dp l) rb → ∃ nl0 dp0 l0 rb0, Path (g r) ix ss (.sl (some s) nl0 sz dp0 l0) rb0 ∧ l0.length = l.length ∧ ∀ y, pval G a w r ix = some y → pval ⟨G.F, G.bx, upd G.tk d td⟩ (a.put (some d) x) w r ix = some y := by
    intro r ix ss hss s nl sz dp l rb hp
    by_cases e : r = d
    · subst e
      rw [upd_self] at hp
      obtain ⟨s', nl', sz', dp', l', e, hs'⟩ := path_top hp
      rcases hss s' hs' with ⟨l2, h2⟩ | h2
      · exact absurd h2 (hst _ _ _ _ _ e l2)
      · rw [e] at h2; simp [AV.pst, AV.pst1] at h2
    · rw [upd_ne e] at hp
      refine ⟨nl, dp, l, rb, hp, rfl, fun y hy => ?_⟩
      unfold pval base at hy ⊢
      by_cases hr : r < 1000
      · rw [if_pos hr] at hy ⊢
        rw [getD_put (by rw [h.hs]; exact hd), if_neg e]; exact hy
      · rw [if_neg hr] at hy ⊢; exact hy
  have mono : ∀ (v' : AV) (x' : Value) (ts : List Nat), RV G g a w v' x' ts → ((∃ l', v' = g l') ∨ v' = v) → RV ⟨G.F, G.bx, upd G.tk d td⟩ (upd g d v) (a.put (some d) x) w v' x' ts := by
    intro v' x' ts hv' hw
    have key : ∀ (r : Nat) (ix ss : List Nat), (∀ s ∈ ss, s ∈ v'.pst) → ∀ s ∈ ss, (∃ l', s ∈ (g l').pst) ∨ s ∈ v.pst := by
      intro r ix ss hs s hs'
      rcases hw with ⟨l', rfl⟩ | rfl
      · exact .inl ⟨l', hs s hs'⟩
      · exact .inr (hs s hs')
    cases v' with
    | any => exact hv'
    | ptr n off => exact hv'
    | pv r ix ss => exact ⟨hv'.1, hv'.2.1, hv'.2.2.mono (hpath r ix ss (key r ix ss (fun s hs => hs)))⟩
    | ea r ix ss j u => exact ⟨hv'.1, hv'.2.mono (hpath r ix ss (key r ix ss (fun s hs => hs)))⟩
    | agg l =>
      obtain ⟨arr, h3, h4, tf, h5, h6⟩ := hv'
      refine ⟨arr, h3, h4, tf, h5, fun j e y he hy => ?_⟩
      have h7 := h6 j e y he hy
      cases e with
      | pv r ix ss => exact ⟨h7.1, h7.2.1, h7.2.2.mono (hpath r ix ss (key r ix ss (fun s hs => List.mem_flatMap.2 ⟨_, List.mem_of_getElem? he, hs⟩)))⟩
      | _ => exact h7
    | tup l => exact hv'
    | _ => exact hv'
  have sub : ∀ l b, b ∈ upd G.tk d td l → b ∈ td ∧ l = d ∨ l ≠ d ∧ b ∈ G.tk l := by
    intro l b hb
    by_cases e : l = d
    · subst e; rw [upd_self] at hb; exact .inl ⟨hb, rfl⟩
    · rw [upd_ne e] at hb; exact .inr ⟨e, hb⟩
  refine ⟨⟨G.F, G.bx, upd G.tk d td⟩, ⟨h.hN, by simp [Act.put, h.hs], by simp [Act.put, h.hd], h.fr, fun t ht => ?_, fun t h1 h2 => by rw [upd_ne (by omega)]; exact h.sz t h1 h2, fun n b z hb => ?_, fun n hn => ?_, fun n b z hb z' hz => ?_, h.bi, fun l b hb => ?_, fun l => ?_, fun l l' b h1 h2 => ?_, h.F, h.f0, fun b hb => ?_, n2, fun b hb z hz => h.p0 b hb z (by rwa [upd_ne (by have := loc_ge 2000 999; have := h.hN; omega)] at hz)⟩, rfl, rfl⟩
  · rw [getD_put (by rw [h.hs]; exact hd)]
    by_cases e : t = d
    · subst e
      dsimp only
      rw [upd_self, upd_self, if_pos rfl]
      exact mono v x td hv (.inr rfl)
    · dsimp only
      rw [upd_ne e, upd_ne e, if_neg e]
      exact mono _ _ _ (h.sl t ht) (.inl ⟨t, rfl⟩)
  · obtain ⟨x1, x2, x3, x4, arr, ty, x5, x6, x7⟩ := h.bx n b z hb
    refine ⟨x1, x2, x3, x4, arr, ty, x5, x6, fun c y hc hy => ?_⟩
    have hne : loc n c ≠ d := by have := loc_ge n c; have := h.hN; omega
    dsimp only
    rw [upd_ne hne, upd_ne hne]
    exact x7 c y hc hy
  · rw [upd_ne (by have := loc_ge n 999; have := h.hN; omega)] at hn; exact h.bn n hn
  · rw [upd_ne (by have := loc_ge n 999; have := h.hN; omega)] at hz; exact h.bs n b z hb z' hz
  · rcases sub l b hb with ⟨h1, _⟩ | ⟨_, h1⟩
    · obtain ⟨x1, x2, x3, x4, _⟩ := h.xb b (List.mem_append_left _ h1)
      exact ⟨x1, x2, x3, x4⟩
    · exact h.tk l b h1
  · by_cases e : l = d
    · subst e; dsimp only; rw [upd_self]; exact n1
    · dsimp only; rw [upd_ne e]; exact h.tn l
  · rcases sub l b h1 with ⟨q1, e1⟩ | ⟨e1, q1⟩ <;> rcases sub l' b h2 with ⟨q2, e2⟩ | ⟨e2, q2⟩
    · rw [e1, e2]
    · exact absurd q2 ((h.xb b (List.mem_append_left _ q1)).2.2.2.2 l')
    · exact absurd q1 ((h.xb b (List.mem_append_left _ q2)).2.2.2.2 l)
    · exact h.td l l' b q1 q2
  · obtain ⟨x1, x2, x3, x4, x5⟩ := h.xb b (List.mem_append_right _ hb)
    refine ⟨x1, x2, x3, x4, fun l hl => ?_⟩
    rcases sub l b hl with ⟨q1, _⟩ | ⟨_, q1⟩
    · exact n3 b q1 b hb rfl
    · exact x5 l q1
end
end Go.Proofs.Ytjihjjbieeofdaa.T
namespace Go.Proofs.Ytjihjjbieeofdaa.T
set_option linter.unusedSimpArgs false
set_option linter.unusedVariables false
open Go Go.RowKit
set_option linter.unusedVariables false
set_option linter.unusedSimpArgs false
section
variable {W0 : Bs} {N : Nat} {G G' : Gh} {g g' : Nat → AV} {a a' : Act} {w w' : World} {X X' : List Nat}
/-- A place's value stays where its root and its holders' blocks stay. -/
theorem Rel.pvalStay (h : Rel W0 N G g a w X) {r : Nat} {ix ss : List Nat} {c : AV} {rb : AV → AV} {y : Value} (hp : Path (g r) ix ss c rb) (hy : pval G a w r ix = some y) (hb : ∀ u, base G a w r = some u → base G' a' w' r = some u) (ht : ∀ b ∈ G.tk r, w'.heap[b]? = w.heap[b]?) : pval G' a' w' r ix = some y := by
  obtain ⟨u, hu, hy2⟩ := Option.bind_eq_some_iff.1 hy
  unfold pval
  rw [hb u hu, Option.bind_some]
  rcases ix with _ | ⟨i, is⟩
  · exact hy2
  · have hr : r < N ∨ ∃ n c b z, r = loc n c ∧ G.bx n = some (b, z) ∧ c < z := by
      by_cases hr : r < 1000
      · refine .inl (Nat.lt_of_not_le (fun hle => ?_))
        rw [base_slot hr] at hu
        have e : a.tmps.getD r undef = undef := by
          rw [Array.getD_eq_getD_getElem?, Array.getElem?_eq_none (by rw [h.hs]; exact hle)]; rfl
        rw [e] at hu
        cases hu
        simp [pvI, undef] at hy2
      · unfold base at hu
        rw [if_neg hr] at hu
        obtain ⟨⟨b, z⟩, hp1, hp2⟩ := Option.bind_eq_some_iff.1 hu
        obtain ⟨_, _, _, _, arr, ty, hh, hsz, _⟩ := h.bx _ b z hp1
        refine .inr ⟨r / 1000 - 1, r % 1000, b, z, by unfold loc; omega, hp1, ?_⟩
        rw [cell_of_block hh] at hp2
        have := (Array.getElem?_eq_some_iff.1 hp2).1
        omega
    obtain ⟨s, nl, sz, dp, l, e, _⟩ := path_top hp
    obtain ⟨u1, hu1, hrp⟩ := h.root hr ⟨s, nl, sz, dp, l, e⟩
    rw [hu] at hu1
    cases hu1
    rw [path_stay hp hrp ht]; exact hy2
theorem setCell_heap (w : World) (b c : Nat) (y : Value) (k : Nat) (hk : k ≠ b) : (w.setCell ⟨b, c, none⟩ y).heap[k]? = w.heap[k]? := Below.heap_setCell w ⟨b, c, none⟩ y k hk
theorem setCell_block {w : World} {b c : Nat} {arr : Array Value} {ty : TypeId} {f : Nat × Nat} (h : w.heap[b]? = some (.cells arr ty f)) (y : Value) : (w.setCell ⟨b, c, none⟩ y).heap[b]? = some (.cells (arr.setIfInBounds c y) ty f) := by
  have hlt := (Array.getElem?_eq_some_iff.1 h).1
  simp only [World.setCell]
  rw [Array.getElem?_modify]
  simp [h]
theorem setCell_size (w : World) (b c : Nat) (y : Value) : (w.setCell ⟨b, c, none⟩ y).heap.size = w.heap.size := by simp [World.setCell]
/-- A value comes into a box's cell. -/
theorem Rel.stBox (h : Rel W0 N G g a w X) {n c b z : Nat} (hn : G.bx n = some (b, z)) (hc : c < z) {v : AV} {y : Value} {ts : List Nat} (hv : Rp w G.F v [y] ts) (hvn : ∀ l', v ≠ AV.agg l') (hX : X = ts ++ X') (hst : ∀ s nl sz dp l, v = .sl (some s) nl sz dp l → ∀ l', s ∉ (g l').pst) :
    ∃ G', Rel W0 N G' (upd g (loc n c) v) a (w.setCell ⟨b, c, none⟩ y) X' ∧ G'.F = G.F ∧ G'.bx = G.bx := by
  subst hX
  obtain ⟨n1, n2, n3⟩ := List.nodup_append.1 h.xn
  obtain ⟨hz, hW, hlt, hnf, arr, ty, hh, hsz, hcell⟩ := h.bx n b z hn
  have hF : ∀ b', G.F b' → (w.setCell ⟨b, c, none⟩ y).heap[b']? = w.heap[b']? := fun b' hf => setCell_heap _ _ _ _ _ (fun e => hnf (e ▸ hf))
  have htk : ∀ l, ∀ b' ∈ G.tk l, (w.setCell ⟨b, c, none⟩ y).heap[b']? = w.heap[b']? := fun l b' hb' => setCell_heap _ _ _ _ _ (fun e => (h.tk l b' hb').2.2.2 n z (e ▸ hn))
  have hts : ∀ b' ∈ ts, (w.setCell ⟨b, c, none⟩ y).heap[b']? = w.heap[b']? := fun b' hb' => setCell_heap _ _ _ _ _ (fun e => (h.xb b' (List.mem_append_left _ hb')).2.2.2.1 n z (e ▸ hn))
  have hpath : ∀ (r : Nat) (ix ss : List Nat), (∀ s ∈ ss, ∃ l', s ∈ (g l').pst) → ∀ s nl sz dp l rb, Path (upd g (loc n c) v r) ix ss (.sl (some s) nl sz dp l) rb → ∃ nl0 dp0 l0 rb0, Path (g r) ix ss (.sl (some s) nl0 sz dp0 l0) rb0 ∧ l0.length = l.length ∧ ∀ y', pval G a w r ix = some y' → pval ⟨G.F, G.bx, upd G.tk (loc n c) ts⟩ a (w.setCell ⟨b, c, none⟩ y) r ix = some y' := by
    intro r ix ss hss s nl sz dp l rb hp
    by_cases e : r = loc n c
    · subst e
      rw [upd_self] at hp
      obtain ⟨s', nl', sz', dp', l', e, hs'⟩ := path_top hp
      obtain ⟨l2, h2⟩ := hss s' hs'
      exact absurd h2 (hst _ _ _ _ _ e l2)
    · rw [upd_ne e] at hp
      refine ⟨nl, dp, l, rb, hp, rfl, fun y' hy' => h.pvalStay hp hy' (fun u hu => ?_) (htk r)⟩
      unfold base at hu ⊢
      by_cases hr : r < 1000
      · rw [if_pos hr] at hu ⊢; exact hu
      · rw [if_neg hr] at hu ⊢
        obtain ⟨⟨b', z'⟩, hp1, hp2⟩ := Option.bind_eq_some_iff.1 hu
        dsimp only at hp2 ⊢
        rw [hp1, Option.bind_some]
        dsimp only
        by_cases hbb : b' = b
        · subst hbb
          have en := h.bi _ _ _ _ _ hp1 hn
          rw [cell_of_block (setCell_block hh y), Array.getElem?_setIfInBounds_ne (fun e2 => e (by unfold loc; omega)), ← cell_of_block hh]
          exact hp2
        · rw [cell_same (setCell_heap _ _ _ _ _ hbb)]; exact hp2
  have sub : ∀ l b', b' ∈ upd G.tk (loc n c) ts l → b' ∈ ts ∧ l = loc n c ∨ l ≠ loc n c ∧ b' ∈ G.tk l := by
    intro l b' hb
    by_cases e : l = loc n c
    · subst e; rw [upd_self] at hb; exact .inl ⟨hb, rfl⟩
    · rw [upd_ne e] at hb; exact .inr ⟨e, hb⟩
  refine ⟨⟨G.F, G.bx, upd G.tk (loc n c) ts⟩, ⟨h.hN, h.hs, h.hd, h.fr.setCell y hW, fun t ht => ?_, fun t h1 h2 => by rw [upd_ne (by have := loc_ge n c; omega)]; exact h.sz t h1 h2, fun m b' z' hb => ?_, fun m hm => ?_, fun m b' z' hb z2 hz2 => ?_, h.bi, fun l b' hb => ?_, fun l => ?_, fun l l' b' h1 h2 => ?_, fun b' hf => by rw [setCell_size]; exact h.F b' hf, h.f0, fun b' hb => ?_, n2, fun b' hb' z' hz' => h.p0 b' hb' z' (by rwa [upd_ne (fun e3 => by have := loc_inj (by omega) (by omega) e3; omega)] at hz')⟩, rfl, rfl⟩
  · have hne : t ≠ loc n c := by have := loc_ge n c; have := h.hN; omega
    dsimp only
    rw [upd_ne hne, upd_ne hne]
    refine (h.sl t ht).mono (fun _ hf => hf) hF (htk t) (fun _ _ => rfl) (fun r ix ss hss s nl sz dp l rb hp => hpath r ix ss (fun s hs => ⟨t, hss s hs⟩) s nl sz dp l rb hp)
  · obtain ⟨x1, x2, x3, x4, arr', ty', x5, x6, x7⟩ := h.bx m b' z' hb
    by_cases e : m = n
    · subst e
      rw [hn] at hb
      cases hb
      rw [hh] at x5
      cases x5
      refine ⟨x1, x2, by rw [setCell_size]; exact x3, x4, _, _, setCell_block hh y, by simpa using x6, fun c' y' hc' hy' => ?_⟩
      by_cases e2 : c' = c
      · subst e2
        rw [Array.getElem?_setIfInBounds_self_of_lt (by omega)] at hy'
        cases hy'
        dsimp only
        rw [upd_self, upd_self]
        exact ⟨hv.move (fun _ hf => hf) hF hts, hvn⟩
      · rw [Array.getElem?_setIfInBounds_ne (fun e3 => e2 e3.symm)] at hy'
        have hne : loc m c' ≠ loc m c := fun e3 => e2 (loc_inj (by omega) (by omega) e3).2
        dsimp only
        rw [upd_ne hne, upd_ne hne]
        exact (x7 c' y' hc' hy').move (fun _ hf => hf) hF (htk _)
    · have hbb : b' ≠ b := fun e3 => e (h.bi m n b' z' z hb (e3 ▸ hn))
      refine ⟨x1, x2, by rw [setCell_size]; exact x3, x4, arr', ty', (setCell_heap _ _ _ _ _ hbb).trans x5, x6, fun c' y' hc' hy' => ?_⟩
      have hne : loc m c' ≠ loc n c := fun e3 => e (loc_inj (by omega) (by omega) e3).1
      dsimp only
      rw [upd_ne hne, upd_ne hne]
      exact (x7 c' y' hc' hy').move (fun _ hf => hf) hF (htk _)
  · rw [upd_ne (fun e3 => by have := loc_inj (by omega) (by omega) e3; omega)] at hm; exact h.bn m hm
  · rw [upd_ne (fun e3 => by have := loc_inj (by omega) (by omega) e3; omega)] at hz2; exact h.bs m b' z' hb z2 hz2
  · rcases sub l b' hb with ⟨h1, _⟩ | ⟨_, h1⟩
    · obtain ⟨x1, x2, x3, x4, _⟩ := h.xb b' (List.mem_append_left _ h1)
      exact ⟨x1, by rw [setCell_size]; exact x2, x3, x4⟩
    · obtain ⟨x1, x2, x3, x4⟩ := h.tk l b' h1
      exact ⟨x1, by rw [setCell_size]; exact x2, x3, x4⟩
  · by_cases e : l = loc n c
    · subst e; dsimp only; rw [upd_self]; exact n1
    · dsimp only; rw [upd_ne e]; exact h.tn l
  · rcases sub l b' h1 with ⟨q1, e1⟩ | ⟨e1, q1⟩ <;> rcases sub l' b' h2 with ⟨q2, e2⟩ | ⟨e2, q2⟩
    · rw [e1, e2]
    · exact absurd q2 ((h.xb b' (List.mem_append_left _ q1)).2.2.2.2 l')
    · exact absurd q1 ((h.xb b' (List.mem_append_left _ q2)).2.2.2.2 l)
    · exact h.td l l' b' q1 q2
  · obtain ⟨x1, x2, x3, x4, x5⟩ := h.xb b' (List.mem_append_right _ hb)
    refine ⟨x1, by rw [setCell_size]; exact x2, x3, x4, fun l hl => ?_⟩
    rcases sub l b' hl with ⟨q1, _⟩ | ⟨_, q1⟩
    · exact n3 b' q1 b' hb rfl
    · exact x5 l q1
theorem nodup_flat {n : Nat} {f : Nat → List Nat} (h1 : ∀ j, j < n → (f j).Nodup) (h2 : ∀ i j b, i < n → j < n → b ∈ f i → b ∈ f j → i = j) : ((List.range n).flatMap f).Nodup := by
  induction n with
  | zero => exact List.nodup_nil
  | succ n ih =>
    rw [List.range_succ, List.flatMap_append]
    refine List.nodup_append.2 ⟨ih (fun j hj => h1 j (by omega)) (fun i j b hi hj => h2 i j b (by omega) (by omega)), by simpa using h1 n (by omega), fun x hx y hy e => ?_⟩
    subst e
    obtain ⟨j, hj, hb⟩ := of_mem_flat hx
    have hy' : x ∈ f n := by simpa using hy
    have := h2 j n x (by omega) (by omega) hb hy'
    omega
theorem of_nodup_flat {n : Nat} {f : Nat → List Nat} (h : ((List.range n).flatMap f).Nodup) : (∀ j, j < n → (f j).Nodup) ∧ ∀ i j b, i < n → j < n → b ∈ f i → b ∈ f j → i = j := by
  induction n with
  | zero => exact ⟨fun j hj => by omega, fun i j b hi => by omega⟩
  | succ n ih =>
    rw [List.range_succ, List.flatMap_append] at h
    obtain ⟨m1, m2, m3⟩ := List.nodup_append.1 h
    obtain ⟨i1, i2⟩ := ih m1
    have m2' : (f n).Nodup := by simpa using m2
    refine ⟨fun j hj => ?_, fun i j b hi hj hbi hbj => ?_⟩
    · by_cases e : j = n
      · subst e; exact m2'
      · exact i1 j (by omega)
    · by_cases e : i = n <;> by_cases e2 : j = n
      · omega
      · subst e
        exact absurd rfl (m3 b (mem_flat (show j < i by omega) hbj) b (by simpa using hbi))
      · subst e2
        exact absurd rfl (m3 b (mem_flat (show i < j by omega) hbi) b (by simpa using hbj))
      · exact i2 i j b (by omega) (by omega) hbi hbj
/-- A cell of an element of the slice at a place is written: the places beside it stay. -/
theorem path_st {v c : AV} {ix ss : List Nat} {rb : AV → AV} (hp : Path v ix ss c rb) : ∀ {w w' : World} {F : Nat → Prop} {u : Value} {ts : List Nat} {s0 : Nat} {nl0 : Option Bool} {sz0 : Nat} {dp0 : Bool} {l0 : List AV} {j : Nat} {e' : AV} {b len cap q : Nat}, c = .sl (some s0) nl0 sz0 dp0 l0 → Rp w F v [u] ts → ts.Nodup → pvI w ix u = some (.slice (some ⟨b, 0, none⟩) len cap) → j < l0.length → q < sz0 →
    (∀ b', b' ≠ b → w'.heap[b']? = w.heap[b']?) → (∀ o, o ≠ j * sz0 + q → w'.cell? ⟨b, o, none⟩ = w.cell? ⟨b, o, none⟩) →
    ∀ {ix2 ss2 : List Nat} {s : Nat} {nl : Option Bool} {sz : Nat} {dp : Bool} {l : List AV} {rb2 : AV → AV}, (∀ s' nl' sz' dp' l', e' = .sl (some s') nl' sz' dp' l' → s' ∉ ss2) → Path (rb (.sl (some s0) nl0 sz0 dp0 (l0.set j e'))) ix2 ss2 (.sl (some s) nl sz dp l) rb2 →
    ∃ nl1 dp1 l1 rb1, Path v ix2 ss2 (.sl (some s) nl1 sz dp1 l1) rb1 ∧ l1.length = l.length ∧ pvI w' ix2 u = pvI w ix2 u := by
  induction hp with
  | @nil s nl sz dp l =>
    intro w w' F u ts s0 nl0 sz0 dp0 l0 j e' b len cap q hc h hnd hpv hj hq hw hcell ix2 ss2 s2 nl2 sz2 dp2 l2 rb2 hst h2
    cases hc
    have h2 : Path (.sl (some s) nl sz dp (l.set j e')) ix2 ss2 (.sl (some s2) nl2 sz2 dp2 l2) rb2 := h2
    simp only [pvI, Option.some.injEq] at hpv
    subst hpv
    cases h2 with
    | nil => exact ⟨_, _, l, _, .nil, by simp, rfl⟩
    | @cons _ _ _ _ _ i e2 is2 ss3 _ rb3 he2 h3 =>
      by_cases hij : i = j
      · subst hij
        rw [List.getElem?_set_self hj] at he2
        cases he2
        obtain ⟨s', nl', sz', dp', l', e, hs'⟩ := path_top h3
        exact absurd (List.mem_cons_of_mem _ hs') (hst _ _ _ _ _ e)
      · rw [List.getElem?_set_ne (fun h => hij h.symm)] at he2
        refine ⟨_, _, _, _, .cons he2 h3, rfl, ?_⟩
        cases h with
        | own1 => simp at he2
        | @own _ _ arr ty _ _ _ _ _ cs tf hn hh hc hm hs hl hr hw' hd =>
          have hi := lt_of_get he2
          have hre := hr i e2 he2
          have hne : ∀ l', e2 ≠ .agg l' := by
            intro l' h'
            subst h'
            cases h3
          obtain ⟨x, hx, hx1⟩ := hre.one hne
          rw [hx] at hre
          have hsz : sz = 1 := by have := hl i hi; rw [hx] at this; simpa using this.symm
          subst hsz
          have hcell1 : w.cell? ⟨b, i, none⟩ = some x := by
            rw [cell_of_block hh]
            have := hw' i 0 x hi (by rw [hx]; rfl)
            simpa using this
          simp only [pvI]
          rw [hcell i (by omega), hcell1, Option.bind_some, Option.bind_some]
          refine path_stay h3 hre (fun b' hb' => hw b' (fun e => ?_))
          subst e
          exact (List.nodup_cons.1 hnd).1 (mem_flat hi hb')
  | @cons s nl sz dp l i e is ss c rb he hp ih =>
    intro w w' F u ts s0 nl0 sz0 dp0 l0 j e' b len cap q hc h hnd hpv hj hq hw hcell ix2 ss2 s2 nl2 sz2 dp2 l2 rb2 hst h2
    cases h with
    | own0 => simp at he
    | own1 => simp at he
    | @own b1 cap1 arr ty _ _ _ _ _ cs tf hn hh hc1 hm hs hl hr hw' hd =>
      obtain ⟨nd1, nd2⟩ := List.nodup_cons.1 hnd
      obtain ⟨nd3, nd4⟩ := of_nodup_flat nd2
      have one : ∀ i e, l[i]? = some e → (∀ l', e ≠ AV.agg l') → ∃ x, cs i = [x] ∧ sz = 1 ∧ w.cell? ⟨b1, i, none⟩ = some x := by
        intro i e he hne
        have hi := lt_of_get he
        obtain ⟨x, hx, hx1⟩ := (hr i e he).one hne
        have hsz : sz = 1 := by have := hl i hi; rw [hx] at this; simpa using this.symm
        subst hsz
        refine ⟨x, hx, rfl, ?_⟩
        rw [cell_of_block hh]
        have := hw' i 0 x hi (by rw [hx]; rfl)
        simpa using this
      have hi := lt_of_get he
      have hne : ∀ l', e ≠ .agg l' := by
        intro l' h'
        subst h'
        cases hp
      obtain ⟨x, hx, hsz, hcx⟩ := one i e he hne
      have hre := hr i e he
      rw [hx] at hre
      simp only [pvI, hcx, Option.bind_some] at hpv
      -- the block that is written lies below element i
      have hbin : b ∈ tf i := by
        obtain ⟨vp, tp, pre, post, q1, q2, q3, _⟩ := path_rep hp hre
        rw [q1] at hpv
        cases hpv
        rw [hc] at q2
        rw [q3]
        cases q2 with
        | own1 => simp at hj
        | own => simp
      have hb1 : b1 ≠ b := fun e2 => nd1 (mem_flat hi (e2 ▸ hbin))
      cases h2 with
      | nil => exact ⟨_, _, l, _, .nil, by simp, rfl⟩
      | @cons _ _ _ _ _ i2 e2 is2 ss3 _ rb3 he2 h3 =>
        by_cases hii : i2 = i
        · subst hii
          rw [List.getElem?_set_self hi] at he2
          cases he2
          obtain ⟨x1, x2, x3, x4, x5, x6, x7⟩ := ih hc hre (nd3 _ hi) hpv hj hq hw hcell (fun s' nl' sz' dp' l' h' hm' => hst s' nl' sz' dp' l' h' (List.mem_cons_of_mem _ hm')) h3
          refine ⟨x1, x2, x3, _, .cons he x5, x6, ?_⟩
          simp only [pvI]
          rw [cell_same (hw b1 hb1), hcx, Option.bind_some, Option.bind_some]
          exact x7
        · rw [List.getElem?_set_ne (fun h => hii h.symm)] at he2
          refine ⟨_, _, _, _, .cons he2 h3, rfl, ?_⟩
          have hne2 : ∀ l', e2 ≠ .agg l' := by
            intro l' h'
            subst h'
            cases h3
          obtain ⟨x2, hx2, _, hcx2⟩ := one i2 e2 he2 hne2
          simp only [pvI]
          rw [cell_same (hw b1 hb1), hcx2, Option.bind_some, Option.bind_some]
          have hre2 := hr i2 e2 he2
          rw [hx2] at hre2
          refine path_stay h3 hre2 (fun b' hb' => hw b' (fun e3 => ?_))
          subst e3
          exact hii (nd4 i2 i b' (lt_of_get he2) hi hb' hbin)
/-- What a path's slice is: the holder's own. -/
theorem rp_own {w : World} {F : Nat → Prop} {s : Nat} {nl : Option Bool} {sz : Nat} {dp : Bool} {l : List AV} {v : Value} {ts : List Nat} (h : Rp w F (.sl (some s) nl sz dp l) [v] ts) (hl : l ≠ []) : ∃ (b cap : Nat) (arr : Array Value) (ty : TypeId) (cs : Nat → List Value) (tf : Nat → List Nat), v = .slice (some ⟨b, 0, none⟩) l.length cap ∧ ts = b :: (List.range l.length).flatMap tf ∧ nl ≠ some true ∧ w.heap[b]? = some (.cells arr ty (0, 0)) ∧ l.length ≤ cap ∧ cap ≤ maxLen ∧ arr.size = cap * sz ∧ (∀ j, j < l.length → (cs j).length = sz) ∧ (∀ j e, l[j]? = some e → Rp w F e (cs j) (tf j)) ∧ (∀ j q u, j < l.length → (cs j)[q]? = some u → arr[j * sz + q]? = some u) ∧ (dp = false → ∀ e ∈ l, e.scal = true) := by
  cases h with
  | own0 => exact absurd rfl hl
  | own1 => exact absurd rfl hl
  | own hn hh hc hm hs hl' hr hw hd => exact ⟨_, _, _, _, _, _, rfl, rfl, hn, hh, hc, hm, hs, hl', hr, hw, hd⟩
/-- A value comes into a cell of an element of a slice that is held. -/
theorem Rel.stEl (h : Rel W0 N G g a w X) {r : Nat} {ix ss : List Nat} {s : Nat} {nl : Option Bool} {sz : Nat} {dp : Bool} {l : List AV} {rb : AV → AV} {b len cap j q : Nat} (hp : Path (g r) ix ss (.sl (some s) nl sz dp l) rb) (hx : pval G a w r ix = some (.slice (some ⟨b, 0, none⟩) len cap)) (hj : j < l.length) (hfl : ∀ n, r ≠ loc n 999)
    {v : AV} {y : Value} {ts : List Nat} (hv : Rp w G.F v [y] ts) (hvn : ∀ l', v ≠ AV.agg l') (hX : X = ts ++ X') (hdp : dp = false → v.scal = true) {e e' : AV} (he : l[j]? = some e) (hq : q < sz) (he' : (∃ es, e = .agg es ∧ e' = .agg (es.set q v)) ∨ ((∀ es, e ≠ .agg es) ∧ q = 0 ∧ e' = v)) (hst : ∀ s nl sz dp l, e' = .sl (some s) nl sz dp l → ∀ l', s ∉ (g l').pst) :
    ∃ G', Rel W0 N G' (upd g r (rb (.sl (some s) nl sz dp (l.set j e')))) a (w.setCell ⟨b, j * sz + q, none⟩ y) X' ∧ G'.F = G.F ∧ G'.bx = G.bx := by
  subst hX
  obtain ⟨xn1, xn2, xn3⟩ := List.nodup_append.1 h.xn
  obtain ⟨hr, u, hu, hux, hrp⟩ := h.rootOk hp hx rfl
  obtain ⟨vp, tp, pre, post, e1, e2, e3, e4⟩ := path_rep hp hrp
  rw [e1] at hux
  cases hux
  obtain ⟨b', cap', arr, ty, cs, tf, q1, q2, q3, q4, q5, q6, q7, q8, q9, q10, q11⟩ := rp_own e2 (fun e => by subst e; simp at hj)
  cases q1
  have hnd := h.tn r
  rw [e3, List.append_assoc] at hnd
  obtain ⟨n1, n2, n3⟩ := List.nodup_append.1 hnd
  obtain ⟨m1, m2, m3⟩ := List.nodup_append.1 n2
  rw [q2] at m1
  obtain ⟨p1, p2⟩ := List.nodup_cons.1 m1
  obtain ⟨p3, p4⟩ := of_nodup_flat p2
  have hbr : b ∈ G.tk r := by rw [e3, q2]; simp
  have htr : ∀ b ∈ tp, b ∈ G.tk r := fun b hb => by rw [e3]; simp [hb]
  obtain ⟨hbW, hblt, hbF, hbx⟩ := h.tk r b hbr
  generalize hw' : w.setCell ⟨b, j * sz + q, none⟩ y = w'
  have hoth : ∀ k, k ≠ b → w'.heap[k]? = w.heap[k]? := fun k hk => by rw [← hw']; exact setCell_heap _ _ _ _ _ hk
  have hblk : w'.heap[b]? = some (.cells (arr.setIfInBounds (j * sz + q) y) ty (0, 0)) := by rw [← hw']; exact setCell_block q4 y
  have hsize : w'.heap.size = w.heap.size := by rw [← hw', setCell_size]
  have hF : ∀ b', G.F b' → w'.heap[b']? = w.heap[b']? := fun b' hf => hoth b' (fun e => hbF (e ▸ hf))
  have htsb : ∀ b' ∈ ts, b' ≠ b := fun b' hb' e => (h.xb b' (List.mem_append_left _ hb')).2.2.2.2 r (e ▸ hbr)
  have hmul : j * sz + q < arr.size := by
    rw [q7]
    calc j * sz + q < j * sz + sz := by omega
      _ = (j + 1) * sz := by rw [Nat.add_mul, Nat.one_mul]
      _ ≤ cap * sz := Nat.mul_le_mul_right _ (by omega)
  -- the element
  obtain ⟨tj, hRe, htj, htjn⟩ : ∃ tj, Rp w' G.F e' ((cs j).set q y) tj ∧ (∀ b' ∈ tj, b' ∈ tf j ∨ b' ∈ ts) ∧ tj.Nodup := by
    have hre := q9 j e he
    have hlj := q8 j hj
    have mv : ∀ {x : AV} {c : List Value} {t : List Nat}, Rp w G.F x c t → (∀ b' ∈ t, b' ∈ tf j) → Rp w' G.F x c t := fun hx ht => hx.move (fun _ hf => hf) hF (fun b' hb' => hoth b' (fun e => p1 (mem_flat hj (e ▸ ht b' hb'))))
    have hv' : Rp w' G.F v [y] ts := hv.move (fun _ hf => hf) hF (fun b' hb' => hoth b' (htsb b' hb'))
    rcases he' with ⟨es, rfl, rfl⟩ | ⟨hne, rfl, rfl⟩
    · generalize hc : cs j = c at hre hlj ⊢
      generalize ht : tf j = t at hre mv
      cases hre with
      | @agg _ _ t2 hl2 hg2 hr2 =>
        have hqe : q < es.length := by omega
        have nd2 := of_nodup_flat (ht ▸ p3 j hj)
        refine ⟨(List.range (es.set q v).length).flatMap (fun i => if i = q then ts else t2 i), .agg (by simpa using hl2) (fun i x hx => ?_) (fun i x z hx hz => ?_), fun b' hb' => ?_, ?_⟩
        · by_cases hi : i = q
          · subst hi
            rw [List.getElem?_set_self hqe] at hx
            cases hx
            exact hvn
          · rw [List.getElem?_set_ne (fun h => hi h.symm)] at hx
            exact hg2 i x hx
        · by_cases hi : i = q
          · subst hi
            rw [List.getElem?_set_self hqe] at hx
            rw [List.getElem?_set_self (by omega)] at hz
            cases hx; cases hz
            rw [if_pos rfl]; exact hv'
          · rw [List.getElem?_set_ne (fun h => hi h.symm)] at hx hz
            rw [if_neg hi]
            exact mv (hr2 i x z hx hz) (fun b' hb' => mem_flat (lt_of_get hx) hb')
        · obtain ⟨i, hi, hb'⟩ := of_mem_flat hb'
          by_cases hiq : i = q
          · rw [if_pos hiq] at hb'; exact .inr hb'
          · rw [if_neg hiq] at hb'
            exact .inl (mem_flat (by simpa using hi) hb')
        · refine nodup_flat (fun i hi => ?_) (fun i i' b' hi hi' hb1 hb2 => ?_)
          · try dsimp only
            split
            · exact xn1
            · exact nd2.1 i (by simpa using hi)
          · have hi := (List.length_set (as := es) (i := q) (a := v)) ▸ hi
            have hi' := (List.length_set (as := es) (i := q) (a := v)) ▸ hi'
            have cross : ∀ i, i < es.length → b' ∈ t2 i → b' ∈ ts → False := fun i hi h1 h2 => (h.xb b' (List.mem_append_left _ h2)).2.2.2.2 r (htr b' (by rw [q2]; exact List.mem_cons_of_mem _ (mem_flat hj (by rw [ht]; exact mem_flat hi h1))))
            try dsimp only at hb1 hb2
            split at hb1 <;> split at hb2
            · omega
            · exact (cross i' hi' hb2 hb1).elim
            · exact (cross i hi hb1 hb2).elim
            · exact nd2.2 i i' b' hi hi' hb1 hb2
    · obtain ⟨x, hx, _⟩ := hre.one hne
      rw [hx]
      exact ⟨ts, hv', fun b' hb' => .inr hb', xn1⟩
  have hlen : (l.set j e').length = l.length := List.length_set
  have cross : ∀ b', b' ∈ ts → b' ∉ G.tk r := fun b' hb' => (h.xb b' (List.mem_append_left _ hb')).2.2.2.2 r
  -- the slice
  have hsl : Rp w' G.F (.sl (some s) nl sz dp (l.set j e')) [.slice (some ⟨b, 0, none⟩) (l.set j e').length cap] (b :: (List.range (l.set j e').length).flatMap fun i => if i = j then tj else tf i) := by
    refine .own (cs := fun i => if i = j then (cs j).set q y else cs i) q3 hblk (by rw [hlen]; exact q5) q6 (by simpa using q7) (fun i hi => ?_) (fun i x hx => ?_) (fun i p z hi hz => ?_) (fun hd i hi => ?_)
    · try dsimp only
      split
      · rw [List.length_set]; exact q8 j hj
      · exact q8 i (by omega)
    · by_cases hij : i = j
      · subst hij
        rw [List.getElem?_set_self hj] at hx
        cases hx
        rw [if_pos rfl, if_pos rfl]; exact hRe
      · rw [List.getElem?_set_ne (fun h => hij h.symm)] at hx
        rw [if_neg hij, if_neg hij]
        exact (q9 i x hx).move (fun _ hf => hf) hF (fun b' hb' => hoth b' (fun e => p1 (mem_flat (lt_of_get hx) (e ▸ hb'))))
    · rw [hlen] at hi
      by_cases hij : i = j
      · subst hij
        rw [if_pos rfl] at hz
        by_cases hpq : p = q
        · subst hpq
          rw [List.getElem?_set_self (by rw [q8 i hi]; exact hq)] at hz
          cases hz
          rw [Array.getElem?_setIfInBounds_self_of_lt hmul]
        · rw [List.getElem?_set_ne (fun h => hpq h.symm)] at hz
          rw [Array.getElem?_setIfInBounds_ne (by omega)]
          exact q10 i p z hi hz
      · rw [if_neg hij] at hz
        have hp' : p < sz := by have := lt_of_get hz; rw [q8 i hi] at this; exact this
        rw [Array.getElem?_setIfInBounds_ne (fun h => ?_)]
        · exact q10 i p z hi hz
        · rcases Nat.lt_or_gt_of_ne hij with hlt | hgt
          · have : (i + 1) * sz ≤ j * sz := Nat.mul_le_mul_right _ (by omega)
            rw [Nat.add_mul, Nat.one_mul] at this
            omega
          · have : (j + 1) * sz ≤ i * sz := Nat.mul_le_mul_right _ (by omega)
            rw [Nat.add_mul, Nat.one_mul] at this
            omega
    · have hvs := hdp hd
      rcases List.mem_or_eq_of_mem_set hi with hi | rfl
      · exact q11 hd i hi
      · rcases he' with ⟨es, rfl, rfl⟩ | ⟨_, _, rfl⟩
        · have h1 := q11 hd _ (List.mem_of_getElem? he)
          refine List.all_eq_true.2 (fun x hx => ?_)
          rcases List.mem_or_eq_of_mem_set hx with hx | rfl
          · exact List.all_eq_true.1 h1 x hx
          · cases x with
            | agg l' => exact absurd rfl (hvn l')
            | b | i | s => rfl
            | _ => cases hvs
        · exact hvs
  rw [hlen] at hsl
  have tpn : (b :: (List.range l.length).flatMap fun i => if i = j then tj else tf i).Nodup := by
    refine List.nodup_cons.2 ⟨fun hb => ?_, nodup_flat (fun i hi => ?_) (fun i i' b' hi hi' hb1 hb2 => ?_)⟩
    · obtain ⟨i, hi, hb⟩ := of_mem_flat hb
      split at hb
      · rcases htj b hb with h1 | h1
        · exact p1 (mem_flat hj h1)
        · exact htsb b h1 rfl
      · exact p1 (mem_flat hi hb)
    · try dsimp only
      split
      · exact htjn
      · exact p3 i hi
    · have old : ∀ i, i < l.length → ∀ b', b' ∈ tf i → b' ∈ G.tk r := fun i hi b' hb' => htr b' (by rw [q2]; exact List.mem_cons_of_mem _ (mem_flat hi hb'))
      try dsimp only at hb1 hb2
      split at hb1 <;> split at hb2
      · omega
      · rename_i h1 h2
        rcases htj b' hb1 with h3 | h3
        · have := p4 j i' b' hj hi' h3 hb2; omega
        · exact (cross b' h3 (old i' hi' b' hb2)).elim
      · rename_i h1 h2
        rcases htj b' hb2 with h3 | h3
        · have := p4 i j b' hi hj hb1 h3; omega
        · exact (cross b' h3 (old i hi b' hb1)).elim
      · exact p4 i i' b' hi hi' hb1 hb2
  have tpsub : ∀ b' ∈ (b :: (List.range l.length).flatMap fun i => if i = j then tj else tf i), b' ∈ tp ∨ b' ∈ ts := by
    intro b' hb'
    rcases List.mem_cons.1 hb' with rfl | hb'
    · exact .inl (by rw [q2]; exact List.mem_cons_self)
    · obtain ⟨i, hi, hb'⟩ := of_mem_flat hb'
      split at hb'
      · rcases htj b' hb' with h1 | h1
        · exact .inl (by rw [q2]; exact List.mem_cons_of_mem _ (mem_flat hj h1))
        · exact .inr h1
      · exact .inl (by rw [q2]; exact List.mem_cons_of_mem _ (mem_flat hi hb'))
  generalize (b :: (List.range l.length).flatMap fun i => if i = j then tj else tf i) = tp' at hsl tpn tpsub
  have hppb : ∀ b' ∈ pre ++ post, b' ≠ b := by
    intro b' hb' e
    subst e
    have hbt : b' ∈ tp := by rw [q2]; exact List.mem_cons_self
    rcases List.mem_append.1 hb' with h1 | h1
    · exact n3 b' h1 b' (List.mem_append_left _ hbt) rfl
    · exact m3 b' hbt b' h1 rfl
  have hnew := e4 w' G.F _ tp' (fun _ hf => hf) hF (fun b' hb' => hoth b' (hppb b' hb')) (fun h0 => by rw [q2] at h0; cases h0) hsl
  have hfr : Bel W0 w' := by rw [← hw']; exact h.fr.setCell y (.inl hbW)
  have htk : ∀ l', l' ≠ r → ∀ b' ∈ G.tk l', w'.heap[b']? = w.heap[b']? := fun l' hl' b' hb' => hoth b' (fun e => hl' (h.td l' r b (e ▸ hb') hbr))
  have hbase : ∀ r', base G a w' r' = base G a w r' := by
    intro r'
    unfold base
    split
    · rfl
    · cases hb2 : G.bx (r' / 1000 - 1) with
      | none => rfl
      | some p =>
        obtain ⟨b2, z2⟩ := p
        simp only [Option.bind_some]
        exact cell_same (hoth b2 (fun e => hbx _ z2 (e ▸ hb2)))
  have hpath : ∀ (r' : Nat) (ix2 ss2 : List Nat), (∀ s ∈ ss2, ∃ l', s ∈ (g l').pst) → ∀ s' nl' sz' dp' l' rb', Path (upd g r (rb (.sl (some s) nl sz dp (l.set j e'))) r') ix2 ss2 (.sl (some s') nl' sz' dp' l') rb' → ∃ nl0 dp0 l0 rb0, Path (g r') ix2 ss2 (.sl (some s') nl0 sz' dp0 l0) rb0 ∧ l0.length = l'.length ∧ ∀ y', pval G a w r' ix2 = some y' → pval ⟨G.F, G.bx, upd G.tk r (pre ++ tp' ++ post)⟩ a w' r' ix2 = some y' := by
    intro r' ix2 ss2 hss s' nl' sz' dp' l' rb' hpa
    by_cases er : r' = r
    · subst er
      rw [upd_self] at hpa
      obtain ⟨x1, x2, x3, x4, x5, x6, x7⟩ := path_st hp rfl hrp (h.tn r') e1 hj hq hoth (fun o ho => by rw [← hw', ]; rw [cell_of_block (setCell_block q4 y), Array.getElem?_setIfInBounds_ne (fun e => ho e.symm), ← cell_of_block q4]) (fun s2 nl2 sz2 dp2 l2 h2 hm2 => by
        obtain ⟨l3, h3⟩ := hss s2 hm2
        exact hst _ _ _ _ _ h2 l3 h3) hpa
      refine ⟨x1, x2, x3, x4, x5, x6, fun y' hy' => ?_⟩
      obtain ⟨u2, hu2, hy2⟩ := Option.bind_eq_some_iff.1 hy'
      rw [hu] at hu2
      cases hu2
      show (base G a w' r').bind (pvI w' ix2) = some y'
      rw [hbase, hu, Option.bind_some, x7]; exact hy2
    · rw [upd_ne er] at hpa
      refine ⟨nl', dp', l', rb', hpa, rfl, fun y' hy' => h.pvalStay hpa hy' (fun u2 hu2 => ?_) (htk r' er)⟩
      exact (hbase r').trans hu2
  have sub : ∀ l' b', b' ∈ upd G.tk r (pre ++ tp' ++ post) l' → b' ∈ G.tk l' ∨ (l' = r ∧ b' ∈ ts) := by
    intro l' b' hb'
    by_cases el : l' = r
    · subst el
      rw [upd_self] at hb'
      simp only [List.mem_append] at hb'
      rcases hb' with (h1 | h1) | h1
      · exact .inl (by rw [e3]; simp [h1])
      · rcases tpsub b' h1 with h2 | h2
        · exact .inl (htr b' h2)
        · exact .inr ⟨rfl, h2⟩
      · exact .inl (by rw [e3]; simp [h1])
    · rw [upd_ne el] at hb'; exact .inl hb'
  have hpp : ∀ b' ∈ pre ++ post, b' ∈ G.tk r := fun b' hb' => by rw [e3]; simp at hb' ⊢; rcases hb' with h1 | h1 <;> simp [h1]
  have hpt : ∀ b' ∈ pre ++ post, b' ∉ tp := by
    intro b' hb' hbt
    rcases List.mem_append.1 hb' with h1 | h1
    · exact n3 b' h1 b' (List.mem_append_left _ hbt) rfl
    · exact m3 b' hbt b' h1 rfl
  refine ⟨⟨G.F, G.bx, upd G.tk r (pre ++ tp' ++ post)⟩, ⟨h.hN, h.hs, h.hd, hfr, fun t ht => ?_, fun t h1 h2 => by rw [upd_ne (fun e => by subst e; rw [h.sz t h1 h2] at hp; cases hp)]; exact h.sz t h1 h2, fun m b' z' hb => ?_, fun m hm => ?_, fun m b' z' hb z2 hz2 => ?_, h.bi, fun l' b' hb' => ?_, fun l' => ?_, fun l1 l2 b' h1 h2 => ?_, fun b' hf => by rw [hsize]; exact h.F b' hf, h.f0, fun b' hb' => ?_, xn2, fun b' hb' z' hz' => h.p0 b' hb' z' (by rwa [upd_ne (fun e5 => hfl 2000 e5.symm)] at hz')⟩, rfl, rfl⟩
  · by_cases et : t = r
    · subst et
      rw [base_slot (by have := h.hN; omega)] at hu
      cases hu
      try dsimp only
      rw [upd_self, upd_self]
      exact RV.of hnew (path_flat hp rfl)
    · dsimp only
      rw [upd_ne et, upd_ne et]
      exact (h.sl t ht).mono (fun _ hf => hf) hF (htk t et) (fun _ _ => rfl) (fun r' ix2 ss2 hss s' nl' sz' dp' l' rb' hpa => hpath r' ix2 ss2 (fun s3 hs3 => ⟨t, hss s3 hs3⟩) s' nl' sz' dp' l' rb' hpa)
  · obtain ⟨x1, x2, x3, x4, arr', ty', x5, x6, x7⟩ := h.bx m b' z' hb
    have hbb : b' ≠ b := fun e5 => hbx m z' (e5 ▸ hb)
    refine ⟨x1, x2, by rw [hsize]; exact x3, x4, arr', ty', (hoth b' hbb).trans x5, x6, fun c' y' hc' hy' => ?_⟩
    by_cases el : loc m c' = r
    · subst el
      rw [base_loc (by omega), hb, Option.bind_some, cell_of_block x5, hy'] at hu
      cases hu
      try dsimp only
      rw [upd_self, upd_self]
      exact ⟨hnew, nagg_flat (path_flat hp rfl)⟩
    · dsimp only
      rw [upd_ne el, upd_ne el]
      exact (x7 c' y' hc' hy').move (fun _ hf => hf) hF (htk _ el)
  · rw [upd_ne (fun e5 => hfl m e5.symm)] at hm; exact h.bn m hm
  · rw [upd_ne (fun e5 => hfl m e5.symm)] at hz2; exact h.bs m b' z' hb z2 hz2
  · rcases sub l' b' hb' with h1 | ⟨_, h1⟩
    · obtain ⟨x1, x2, x3, x4⟩ := h.tk l' b' h1
      exact ⟨x1, by rw [hsize]; exact x2, x3, x4⟩
    · obtain ⟨x1, x2, x3, x4, _⟩ := h.xb b' (List.mem_append_left _ h1)
      exact ⟨x1, by rw [hsize]; exact x2, x3, x4⟩
  · by_cases el : l' = r
    · subst el
      try dsimp only
      rw [upd_self, List.append_assoc]
      have mm : ∀ b' ∈ tp', b' ∉ pre ++ post := fun b' hb' hb2 => by
        rcases tpsub b' hb' with h1 | h1
        · exact hpt b' hb2 h1
        · exact cross b' h1 (hpp b' hb2)
      refine List.nodup_append.2 ⟨n1, List.nodup_append.2 ⟨tpn, m2, fun x hx z hz e => mm x hx (by subst e; simp [hz])⟩, fun x hx z hz e => ?_⟩
      subst e
      rcases List.mem_append.1 hz with h1 | h1
      · exact mm x h1 (by simp [hx])
      · exact n3 x hx x (List.mem_append_right _ h1) rfl
    · dsimp only; rw [upd_ne el]; exact h.tn l'
  · rcases sub l1 b' h1 with q1' | ⟨e1', q1'⟩ <;> rcases sub l2 b' h2 with q2' | ⟨e2', q2'⟩
    · exact h.td l1 l2 b' q1' q2'
    · exact absurd q1' ((h.xb b' (List.mem_append_left _ q2')).2.2.2.2 l1)
    · exact absurd q2' ((h.xb b' (List.mem_append_left _ q1')).2.2.2.2 l2)
    · rw [e1', e2']
  · obtain ⟨x1, x2, x3, x4, x5⟩ := h.xb b' (List.mem_append_right _ hb')
    refine ⟨x1, by rw [hsize]; exact x2, x3, x4, fun l' hl' => ?_⟩
    rcases sub l' b' hl' with h1 | ⟨_, h1⟩
    · exact x5 l' h1
    · exact xn3 b' h1 b' hb' rfl
end
end Go.Proofs.Ytjihjjbieeofdaa.T

