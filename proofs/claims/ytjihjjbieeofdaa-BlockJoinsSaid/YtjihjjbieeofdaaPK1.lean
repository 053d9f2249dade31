/- What functions of the program come to, on trees. No condition but those that the theorems name. -/
import Derived.Lib.SliceRun
import Derived.Laws.BytesString
import Derived.Laws.Cells
import Derived.Test.YtjihjjbieeofdaaPK0
namespace Go.Proofs.Ytjihjjbieeofdaa.T
set_option linter.unusedSimpArgs false
set_option linter.unusedVariables false
open Go Go.RowKit
set_option linter.unusedVariables false
set_option linter.unusedSimpArgs false
section
variable {W0 : Bs} {N : Nat} {G G' : Gh} {g g' : Nat → AV} {a a' : Act} {w w' : World} {X X' : List Nat}
/-- The places behind the making of a box n of the cells vs. -/
def boxed (g : Nat → AV) (n : Nat) (vs : List AV) : Nat → AV := fun l => if l = loc n 999 then .i .i64 vs.length else if 1000 * (n + 1) ≤ l ∧ l < 1000 * (n + 1) + vs.length then vs.getD (l - 1000 * (n + 1)) .any else g l
theorem boxed_cell {n c : Nat} {vs : List AV} (hc : c < vs.length) (hv : vs.length ≤ 900) : boxed g n vs (loc n c) = vs[c] := by
  unfold boxed loc
  rw [if_neg (by omega), if_pos (by omega), show 1000 * (n + 1) + c - 1000 * (n + 1) = c by omega]
  simp [List.getD_eq_getElem?_getD, hc]
theorem boxed_flag (n : Nat) (vs : List AV) : boxed g n vs (loc n 999) = .i .i64 vs.length := by simp [boxed]
theorem boxed_ne {n l : Nat} {vs : List AV} (h : ∀ c, c < 1000 → l ≠ loc n c) (hv : vs.length ≤ 900) : boxed g n vs l = g l := by
  unfold boxed
  rw [if_neg (h 999 (by omega)), if_neg (fun h2 => h (l - 1000 * (n + 1)) (by omega) (by unfold loc; omega))]
theorem Rel.newBox (h : Rel W0 N G g a w X) {n : Nat} (hn2 : n < 1000) (hn : g (loc n 999) = .any) {vs : List AV} {arr : Array Value} {ty : TypeId} {tf : Nat → List Nat} (hz : vs.length ≤ 900) (hs : arr.size = vs.length) (hv : ∀ c v y, vs[c]? = some v → arr[c]? = some y → Rp w G.F v [y] (tf c)) (hvn : ∀ (c : Nat) (v : AV), vs[c]? = some v → ∀ l', v ≠ AV.agg l') (hX : X = (List.range vs.length).flatMap tf ++ X')
    (hst : ∀ s nl sz dp l, .sl (some s) nl sz dp l ∈ vs → ∀ l', s ∉ (g l').pst) :
    ∃ G', Rel W0 N G' (boxed g n vs) a (w.alloc (.cells arr ty (0, 0))) X' ∧ G'.F = G.F ∧ G'.bx = upd G.bx n (some (w.heap.size, vs.length)) := by
  subst hX
  have hbn : G.bx n = none := h.bn n hn
  obtain ⟨n1, n2, n3⟩ := List.nodup_append.1 h.xn
  obtain ⟨n4, n5⟩ := of_nodup_flat n1
  generalize hw' : w.alloc (.cells arr ty (0, 0)) = w'
  have hold : ∀ k, k < w.heap.size → w'.heap[k]? = w.heap[k]? := fun k hk => by rw [← hw']; exact Below.heap_alloc _ _ _ hk
  have hnew : w'.heap[w.heap.size]? = some (.cells arr ty (0, 0)) := by rw [← hw']; show (w.heap.push _)[w.heap.size]? = _; simp
  have hsize : w'.heap.size = w.heap.size + 1 := by rw [← hw']; show (w.heap.push _).size = _; simp
  have hfr : Bel W0 w' := by rw [← hw']; exact h.fr.trans ((Below.refl _ w).alloc h.fr.size _)
  have hF : ∀ b, G.F b → w'.heap[b]? = w.heap[b]? := fun b hf => hold b (h.F b hf)
  have htk : ∀ l, ∀ b ∈ G.tk l, w'.heap[b]? = w.heap[b]? := fun l b hb => hold b (h.tk l b hb).2.1
  let tk' : Nat → List Nat := fun l => if 1000 * (n + 1) ≤ l ∧ l < 1000 * (n + 1) + vs.length then tf (l - 1000 * (n + 1)) else if l / 1000 = n + 1 then [] else G.tk l
  have tkc : ∀ c, c < vs.length → tk' (loc n c) = tf c := fun c hc => by
    show (if _ then _ else _) = _
    rw [if_pos (by unfold loc; omega), show loc n c - 1000 * (n + 1) = c by unfold loc; omega]
  have tkne : ∀ l, l / 1000 ≠ n + 1 → tk' l = G.tk l := fun l hl => by
    show (if _ then _ else _) = _
    rw [if_neg (by omega), if_neg hl]
  have sub : ∀ l b, b ∈ tk' l → (∃ c, l = loc n c ∧ c < vs.length ∧ b ∈ tf c) ∨ (l / 1000 ≠ n + 1 ∧ b ∈ G.tk l) := by
    intro l b hb
    have hb : b ∈ (if 1000 * (n + 1) ≤ l ∧ l < 1000 * (n + 1) + vs.length then tf (l - 1000 * (n + 1)) else if l / 1000 = n + 1 then [] else G.tk l) := hb
    by_cases h1 : 1000 * (n + 1) ≤ l ∧ l < 1000 * (n + 1) + vs.length
    · rw [if_pos h1] at hb
      exact .inl ⟨l - 1000 * (n + 1), by unfold loc; omega, by omega, hb⟩
    · rw [if_neg h1] at hb
      by_cases h2 : l / 1000 = n + 1
      · rw [if_pos h2] at hb; cases hb
      · rw [if_neg h2] at hb; exact .inr ⟨h2, hb⟩
  have hbne : ∀ m p, G.bx m = some p → m ≠ n := fun m p hm e => by rw [e, hbn] at hm; cases hm
  have bneq : ∀ l, l / 1000 ≠ n + 1 → boxed g n vs l = g l := fun l hl => boxed_ne (fun c hc e => hl (by rw [e]; unfold loc; omega)) hz
  have hgo : ∀ (r : Nat) (ix ss : List Nat), (∀ s ∈ ss, ∃ l', s ∈ (g l').pst) → ∀ s nl sz dp l rb, Path (boxed g n vs r) ix ss (.sl (some s) nl sz dp l) rb → ∃ nl0 dp0 l0 rb0, Path (g r) ix ss (.sl (some s) nl0 sz dp0 l0) rb0 ∧ l0.length = l.length ∧ ∀ y, pval G a w r ix = some y → pval ⟨G.F, upd G.bx n (some (w.heap.size, vs.length)), tk'⟩ a w' r ix = some y := by
    intro r ix ss hss s nl sz dp l rb hp
    by_cases e : r / 1000 = n + 1
    · have none_ : ∀ y, pval G a w r ix ≠ some y := by
        intro y hy
        obtain ⟨u, hu, _⟩ := Option.bind_eq_some_iff.1 hy
        unfold base at hu
        rw [if_neg (by omega), show r / 1000 - 1 = n by omega, hbn] at hu
        cases hu
      by_cases h1 : 1000 * (n + 1) ≤ r ∧ r < 1000 * (n + 1) + vs.length
      · have e2 : r = loc n (r - 1000 * (n + 1)) := by unfold loc; omega
        rw [e2, boxed_cell (by omega) hz] at hp
        obtain ⟨s', nl', sz', dp', l', e3, hs'⟩ := path_top hp
        obtain ⟨l2, h2⟩ := hss s' hs'
        exact absurd h2 (hst _ _ _ _ _ (by rw [← e3]; exact List.getElem_mem _) l2)
      · by_cases h2 : r = loc n 999
        · rw [h2, boxed_flag] at hp; cases hp
        · have : boxed g n vs r = g r := by unfold boxed; rw [if_neg h2, if_neg h1]
          rw [this] at hp
          exact ⟨nl, dp, l, rb, hp, rfl, fun y hy => absurd hy (none_ y)⟩
    · rw [bneq r e] at hp
      refine ⟨nl, dp, l, rb, hp, rfl, fun y hy => h.pvalStay hp hy (fun u hu => ?_) (htk r)⟩
      unfold base at hu ⊢
      by_cases hr : r < 1000
      · rw [if_pos hr] at hu ⊢; exact hu
      · rw [if_neg hr] at hu ⊢
        obtain ⟨⟨b', z'⟩, hp1, hp2⟩ := Option.bind_eq_some_iff.1 hu
        dsimp only
        rw [upd_ne (hbne _ _ hp1), hp1, Option.bind_some]
        rw [cell_same (hold b' (h.bx _ _ _ hp1).2.2.1)]; exact hp2
  have bxs : ∀ m b z, upd G.bx n (some (w.heap.size, vs.length)) m = some (b, z) → (m = n ∧ b = w.heap.size ∧ z = vs.length) ∨ (m ≠ n ∧ G.bx m = some (b, z)) := by
    intro m b z hm
    by_cases e : m = n
    · subst e; rw [upd_self] at hm; cases hm; exact .inl ⟨rfl, rfl, rfl⟩
    · rw [upd_ne e] at hm; exact .inr ⟨e, hm⟩
  refine ⟨⟨G.F, upd G.bx n (some (w.heap.size, vs.length)), tk'⟩, ⟨h.hN, h.hs, h.hd, hfr, fun t ht => ?_, fun t h1 h2 => by rw [bneq t (by omega)]; exact h.sz t h1 h2, fun m b z hb => ?_, fun m hm => ?_, fun m b z hb z' hz' => ?_, fun m m' b z z' h1 h2 => ?_, fun l b hb => ?_, fun l => ?_, fun l l' b h1 h2 => ?_, fun b hf => by rw [hsize]; have := h.F b hf; omega, h.f0, fun b hb => ?_, n2, fun b hb z hz => by dsimp only; rw [upd_ne (by omega)]; exact h.p0 b hb z (by rwa [bneq _ (by unfold loc; omega)] at hz)⟩, rfl, rfl⟩
  · have ht1 : t / 1000 ≠ n + 1 := by have := h.hN; omega
    dsimp only
    rw [bneq t ht1, tkne t ht1]
    exact (h.sl t ht).mono (fun _ hf => hf) hF (htk t) (fun m hm => by
      obtain ⟨_, hb⟩ := (h.sl t ht).pbx hm
      exact upd_ne (hbne _ _ hb)) (fun r ix ss hss s nl sz dp l rb hp => hgo r ix ss (fun s hs => ⟨t, hss s hs⟩) s nl sz dp l rb hp)
  · rcases bxs m b z hb with ⟨rfl, rfl, rfl⟩ | ⟨hne, hb⟩
    · refine ⟨hz, .inl h.fr.size, by omega, fun hf => by have := h.F _ hf; omega, arr, ty, hnew, hs, fun c y hc hy => ?_⟩
      dsimp only
      rw [boxed_cell hc hz, tkc c hc]
      exact ⟨(hv c _ y (List.getElem?_eq_getElem hc) hy).move (fun _ hf => hf) hF (fun b hb => hold b (h.xb b (List.mem_append_left _ (mem_flat hc hb))).2.1), hvn c _ (List.getElem?_eq_getElem hc)⟩
    · obtain ⟨x1, x2, x3, x4, arr', ty', x5, x6, x7⟩ := h.bx m b z hb
      refine ⟨x1, x2, by omega, x4, arr', ty', (hold b x3).trans x5, x6, fun c y hc hy => ?_⟩
      have hl : loc m c / 1000 ≠ n + 1 := by unfold loc; omega
      dsimp only
      rw [bneq _ hl, tkne _ hl]
      exact (x7 c y hc hy).move (fun _ hf => hf) hF (htk _)
  · by_cases e : m = n
    · subst e; rw [boxed_flag] at hm; cases hm
    · dsimp only
      rw [upd_ne e]
      rw [bneq (loc m 999) (by unfold loc; omega)] at hm
      exact h.bn m hm
  · rcases bxs m b z hb with ⟨rfl, rfl, rfl⟩ | ⟨hne, hb⟩
    · rw [boxed_flag] at hz'; cases hz'; rfl
    · rw [bneq (loc m 999) (by unfold loc; omega)] at hz'
      exact h.bs m b z hb z' hz'
  · rcases bxs m b z h1 with ⟨rfl, rfl, rfl⟩ | ⟨hne, h1⟩ <;> rcases bxs m' _ z' h2 with ⟨e1, e2, e3⟩ | ⟨hne', h2⟩
    · exact e1.symm
    · have := (h.bx _ _ _ h2).2.2.1; omega
    · have := (h.bx _ _ _ h1).2.2.1; omega
    · exact h.bi _ _ _ _ _ h1 h2
  · have bxlt : b < w.heap.size → (∀ m z, G.bx m ≠ some (b, z)) → ∀ m z, upd G.bx n (some (w.heap.size, vs.length)) m ≠ some (b, z) := by
      intro hlt hx m z hm
      rcases bxs m b z hm with ⟨_, e, _⟩ | ⟨_, e⟩
      · omega
      · exact hx m z e
    rcases sub l b hb with ⟨c, _, hc, h1⟩ | ⟨_, h1⟩
    · obtain ⟨x1, x2, x3, x4, _⟩ := h.xb b (List.mem_append_left _ (mem_flat hc h1))
      exact ⟨x1, by omega, x3, bxlt x2 x4⟩
    · obtain ⟨x1, x2, x3, x4⟩ := h.tk l b h1
      exact ⟨x1, by omega, x3, bxlt x2 x4⟩
  · by_cases h1 : l / 1000 = n + 1
    · by_cases h2 : 1000 * (n + 1) ≤ l ∧ l < 1000 * (n + 1) + vs.length
      · show (if _ then _ else _ : List Nat).Nodup
        rw [if_pos h2]; exact n4 _ (by omega)
      · show (if _ then _ else _ : List Nat).Nodup
        rw [if_neg h2, if_pos h1]; exact List.nodup_nil
    · show (tk' l).Nodup; rw [tkne l h1]; exact h.tn l
  · rcases sub l b h1 with ⟨c, e1, hc, q1⟩ | ⟨e1, q1⟩ <;> rcases sub l' b h2 with ⟨c', e2, hc', q2⟩ | ⟨e2, q2⟩
    · rw [e1, e2, n5 c c' b hc hc' q1 q2]
    · exact absurd q2 ((h.xb b (List.mem_append_left _ (mem_flat hc q1))).2.2.2.2 l')
    · exact absurd q1 ((h.xb b (List.mem_append_left _ (mem_flat hc' q2))).2.2.2.2 l)
    · exact h.td l l' b q1 q2
  · obtain ⟨x1, x2, x3, x4, x5⟩ := h.xb b (List.mem_append_right _ hb)
    refine ⟨x1, by omega, x3, fun m z hm => ?_, fun l hl => ?_⟩
    · rcases bxs m b z hm with ⟨_, e, _⟩ | ⟨_, e⟩
      · omega
      · exact x4 m z e
    · rcases sub l b hl with ⟨c, _, hc, q1⟩ | ⟨_, q1⟩
      · exact n3 b (mem_flat hc q1) b hb rfl
      · exact x5 l q1
end
end Go.Proofs.Ytjihjjbieeofdaa.T
namespace Go.Proofs.Ytjihjjbieeofdaa.T
set_option linter.unusedSimpArgs false
set_option linter.unusedVariables false
open Go Go.RowKit
set_option linter.unusedVariables false
set_option linter.unusedSimpArgs false
/-- A value that comes back. -/
def RT (w : World) (F : Nat → Prop) (v : AV) (x : Value) (ts : List Nat) : Prop := match v with
  | .tup l => ∃ vs : Array Value, x = .tuple vs ∧ vs.size = l.length ∧ ∃ tf : Nat → List Nat, ts = (List.range l.length).flatMap tf ∧ ∀ j e y, l[j]? = some e → vs[j]? = some y → RW w F e y (tf j)
  | v => RW w F v x ts
/-- The contract of a function: arguments that are read only, an answer with holders of its own; what was there stays. -/
structure ImplF (P : Program) (f : Nat) (ars : List AV) (r : AV) : Prop where
  fn : ∃ fn, P.funcs[f]? = some fn ∧ (fn.name == "runtime.NumGoroutine") = false ∧ fn.body.isSome = true
  calls : ∀ (F : Nat → Prop) (w : World) (vs : Array Value), vs.size = ars.length → (∀ (j : Nat) (e : AV) (v : Value), ars[j]? = some e → vs[j]? = some v → RW w F e v []) → (∀ b, F b → b < w.heap.size) →
    Calls P f vs w fun e w' => ∃ (v : Value) (S : Nat → Prop) (ts : List Nat), e = .returned v ∧ Below w.heap.size w w' ∧ RT w' (fun b => F b ∨ S b) r v ts ∧ ts.Nodup ∧ (∀ b ∈ ts, w.heap.size ≤ b ∧ b < w'.heap.size) ∧ ∀ b, S b → w.heap.size ≤ b ∧ b < w'.heap.size ∧ b ∉ ts
/-- The contract of a function whose first argument is the address of a box of one number c; it holds c' behind the call. -/
structure ImplP (P : Program) (f : Nat) (c : AV) (ars : List AV) (r c' : AV) : Prop where
  fn : ∃ fn, P.funcs[f]? = some fn ∧ (fn.name == "runtime.NumGoroutine") = false ∧ fn.body.isSome = true
  calls : ∀ (F : Nat → Prop) (w : World) (b : Nat) (x : Value) (ty : TypeId) (vs : List Value), w.heap[b]? = some (.cells #[x] ty (0, 0)) → ¬ F b → Rp w F c [x] [] → vs.length = ars.length → (∀ (j : Nat) (e : AV) (v : Value), ars[j]? = some e → vs[j]? = some v → RW w F e v []) → (∀ b, F b → b < w.heap.size) →
    Calls P f (Value.pointer (some ⟨b, 0, none⟩) :: vs).toArray w fun e w' => ∃ (y v : Value) (S : Nat → Prop) (ts : List Nat), e = .returned v ∧ Below w.heap.size (w.setCell ⟨b, 0, none⟩ y) w' ∧ (∀ (w2 : World) (F2 : Nat → Prop), Rp w2 F2 c' [y] []) ∧ RT w' (fun b => F b ∨ S b) r v ts ∧ ts.Nodup ∧ (∀ b ∈ ts, w.heap.size ≤ b ∧ b < w'.heap.size) ∧ ∀ b, S b → w.heap.size ≤ b ∧ b < w'.heap.size ∧ b ∉ ts
/-- Either. -/
structure Impl (P : Program) (f : Nat) (ars : List AV) (r : AV) : Prop where
  of : match ars with
    | .tup [c] :: ars => ∃ r1 c', r = .tup [r1, .tup [c']] ∧ ImplP P f c ars r1 c'
    | ars => ImplF P f ars r
theorem Impl.f {P : Program} {f : Nat} {ars : List AV} {r : AV} (h : Impl P f ars r) (hn : ∀ e, ars[0]? = some e → ∀ l, e ≠ .tup l) : ImplF P f ars r := by
  obtain ⟨h⟩ := h
  split at h
  · exact absurd rfl (hn _ rfl _)
  · exact h
theorem Impl.p {P : Program} {f : Nat} {c : AV} {ars : List AV} {r : AV} (h : Impl P f (.tup [c] :: ars) r) : ∃ r1 c', r = .tup [r1, .tup [c']] ∧ ImplP P f c ars r1 c' := h.of
def NoSt (k : Nat) (g : Nat → AV) : Prop := ∀ l, k ∉ (g l).pst
/-- Own stamps are k. -/
def Stp (k : Nat) (v : AV) : Prop := (∀ s nl sz dp l, v = .sl (some s) nl sz dp l → s = k) ∧ ∀ cs, v = .agg cs → ∀ s nl sz dp l, .sl (some s) nl sz dp l ∈ cs → s = k
/-- What is written tells no places that were not told. -/
def Less (g g' : Nat → AV) : Prop := ∀ l, (g' l).pst = [] ∨ g' l = g l
theorem Less.refl (g : Nat → AV) : Less g g := fun _ => .inr rfl
theorem Less.trans {g g1 g2 : Nat → AV} (h : Less g g1) (h' : Less g1 g2) : Less g g2 := fun l => by
  rcases h' l with h1 | h1
  · exact .inl h1
  · rw [h1]; exact h l
theorem Less.noSt {g g' : Nat → AV} {k : Nat} (h : Less g g') (hn : NoSt k g) : NoSt k g' := fun l hl => by
  rcases h l with h1 | h1
  · rw [h1] at hl; cases hl
  · rw [h1] at hl; exact hn l hl
theorem Less.upd {g : Nat → AV} {r : Nat} {v : AV} (h : v.pst = []) : Less g (upd g r v) := fun l => by
  by_cases e : l = r
  · subst e; rw [upd_self]; exact .inl h
  · rw [upd_ne e]; exact .inr rfl
section
variable {P : Program} {W0 : Bs} {N : Nat} {G G' : Gh} {g g' : Nat → AV} {a a' : Act} {w w' : World} {X X' : List Nat} {L : Lg}
def opOk (N : Nat) (x : Operand) : Prop := ∀ t, x = .tmp t → t < N
theorem runs_upd {α : Type} {l : Nat} {v : AV} {k : Pg α} {b : α} {Imp : Nat → List AV → AV → Prop} (h : Runs Imp (.wr l v k) g b g' L) : ∃ L', Runs Imp k (upd g l v) b g' L' := by
  cases h with
  | wr h => exact ⟨_, h⟩
theorem runs_rd {α : Type} {l : Nat} {k : AV → Pg α} {b : α} {Imp : Nat → List AV → AV → Prop} (h : Runs Imp (.rd l k) g b g' L) : ∃ L', Runs Imp (k (g l)) g b g' L' := by
  cases h with
  | rd h => exact ⟨_, h⟩
theorem runs_ret {α : Type} {x b : α} {Imp : Nat → List AV → AV → Prop} (h : Runs Imp (.ret x) g b g' L) : b = x ∧ g' = g := by
  cases h; exact ⟨rfl, rfl⟩
theorem runs_fail {α : Type} {b : α} {Imp : Nat → List AV → AV → Prop} (h : Runs Imp (.fail : Pg α) g b g' L) : False := by cases h
theorem runs_need {α : Type} {c : Prop} {k : Pg α} {b : α} {Imp : Nat → List AV → AV → Prop} (h : Runs Imp (.need c k) g b g' L) : c ∧ Runs Imp k g b g' L := by
  cases h with
  | need hc h => exact ⟨hc, h⟩
theorem runs_ex {α : Type} {p : AV → Prop} {k : AV → Pg α} {b : α} {Imp : Nat → List AV → AV → Prop} (h : Runs Imp (.ex p k) g b g' L) : ∃ v, p v ∧ Runs Imp (k v) g b g' L := by
  cases h with
  | ex v hv h => exact ⟨v, hv, h⟩
theorem runs_call {α : Type} {f : Nat} {ars : List AV} {k : AV → Pg α} {b : α} {Imp : Nat → List AV → AV → Prop} (h : Runs Imp (.call f ars k) g b g' L) : ∃ r, Imp f ars r ∧ Runs Imp (k r) g b g' L := by
  cases h with
  | call r hr h => exact ⟨r, hr, h⟩
theorem runs_fc {α : Type} {l : List AV} {k : List AV → Pg α} {b : α} {Imp : Nat → List AV → AV → Prop} (h : Runs Imp (.fc l k) g b g' L) : Runs Imp (k l) g b g' L := by
  cases h with
  | fc h => exact h
theorem runs_pex {d : Nat} {v : AV} {Imp : Nat → List AV → AV → Prop} (h : Runs Imp (pex d v) g () g' L) : Runs Imp (put d v) g () g' L := by
  obtain ⟨u, e, h1⟩ := runs_ex h
  subst e
  exact h1
theorem ofVal_rv (c : Value) : ∃ ts, RV G g a w (ofVal c) c ts ∧ ts = [] := by
  refine ⟨[], ?_, rfl⟩
  unfold ofVal
  split
  · exact .b _
  · exact .i _ _
  · exact .s _
  · exact .own0 (by simp)
  · exact rfl
theorem ofVal_flat (c : Value) : (ofVal c).pst = [] ∧ (∀ l, ofVal c ≠ .agg l) ∧ (∀ l, ofVal c ≠ .tup l) := by
  unfold ofVal
  split <;> refine ⟨rfl, ?_, ?_⟩ <;> intro l h <;> cases h
theorem rdo_snd (h : Rel W0 N G g a w X) {x : Operand} (hx : opOk N x) {v : AV} {Imp : Nat → List AV → AV → Prop} (hr : Runs Imp (rdo x) g v g' L) : g' = g ∧ ∃ ts, RV G g a w v (a.eval x) ts ∧ ∀ b ∈ ts, ∃ l, b ∈ G.tk l := by
  cases x with
  | tmp t =>
    obtain ⟨_, h1⟩ := runs_rd hr
    obtain ⟨rfl, rfl⟩ := runs_ret h1
    exact ⟨rfl, _, h.sl t (hx t rfl), fun b hb => ⟨t, hb⟩⟩
  | const c =>
    obtain ⟨rfl, rfl⟩ := runs_ret hr
    obtain ⟨ts, h1, rfl⟩ := ofVal_rv (G := G) (g := g') (a := a) (w := w) c
    exact ⟨rfl, _, h1, fun b hb => by cases hb⟩
  | global _ =>
    obtain ⟨rfl, rfl⟩ := runs_ret hr
    exact ⟨rfl, [], rfl, fun b hb => by cases hb⟩
  | func _ =>
    obtain ⟨rfl, rfl⟩ := runs_ret hr
    exact ⟨rfl, [], rfl, fun b hb => by cases hb⟩
theorem rsl_snd {Imp : Nat → List AV → AV → Prop} : ∀ {ix : List Nat} {v : AV} {ss : List Nat} {rb0 : AV → AV} {p : AV × (AV → AV)} {L : Lg}, Runs Imp (rsl v ix ss rb0) g p g' L → g' = g ∧ ∃ rb, Path v ix ss p.1 rb ∧ ∀ y, p.2 y = rb0 (rb y)
  | [], v, ss, rb0, p, L, h => by
    cases v with
    | sl o nl sz dp l =>
      cases o with
      | none => simp only [rsl] at h; exact (runs_fail h).elim
      | some s =>
        simp only [rsl] at h
        split at h
        · split at h
          · rename_i s' e
            subst e
            obtain ⟨rfl, rfl⟩ := runs_ret h
            exact ⟨rfl, _, .nil, fun _ => rfl⟩
          · exact (runs_fail h).elim
        · exact (runs_fail h).elim
    | _ => simp only [rsl] at h; exact (runs_fail h).elim
  | i :: is, v, ss, rb0, p, L, h => by
    cases v with
    | sl o nl sz dp l =>
      cases o with
      | none => simp only [rsl] at h; exact (runs_fail h).elim
      | some s =>
        simp only [rsl] at h
        split at h
        · split at h
          · rename_i s' ss' e
            subst e
            obtain ⟨e, he, h1⟩ := runs_ex h
            obtain ⟨rfl, rb, h2, h3⟩ := rsl_snd h1
            exact ⟨rfl, _, .cons he h2, h3⟩
          · exact (runs_fail h).elim
        · exact (runs_fail h).elim
    | _ => simp only [rsl] at h; exact (runs_fail h).elim
theorem rslP_snd {Imp : Nat → List AV → AV → Prop} {r : Nat} {ix ss : List Nat} {p : AV × (AV → AV)} (h : Runs Imp (rslP r ix ss) g p g' L) : g' = g ∧ Path (g r) ix ss p.1 p.2 := by
  obtain ⟨_, h1⟩ := runs_rd h
  obtain ⟨rfl, rb, h2, h3⟩ := rsl_snd h1
  have : p.2 = rb := funext fun y => h3 y
  rw [this]
  exact ⟨rfl, h2⟩
theorem loc999 {r n : Nat} {ix ss : List Nat} {c : AV} {rb : AV → AV} (h : Rel W0 N G g a w X) {x : Value} (hp : Path (g r) ix ss c rb) (hx : pval G a w r ix = some x) (h1 : x.oneCell' = true) : r ≠ loc n 999 := by
  obtain ⟨hr, _⟩ := h.rootOk hp hx h1
  rcases hr with hr | ⟨m, c, b, z, rfl, hb, hc⟩
  · have := loc_ge n 999; have := h.hN; omega
  · intro e
    have := (h.bx m b z hb).1
    have := loc_inj (by omega) (by omega) e
    omega
/-- What is seen behind a look. -/
theorem look_snd (h : Rel W0 N G g a w X) {v c : AV} {x : Value} {ts : List Nat} (hv : RV G g a w v x ts) {Imp : Nat → List AV → AV → Prop} (hr : Runs Imp (look v) g c g' L) : g' = g ∧ ((c = v ∧ (∀ r ix ss, v ≠ .pv r ix ss)) ∨ (∃ r ix ss rb, v = .pv r ix ss ∧ Path (g r) ix ss c rb ∧ pval G a w r ix = some x ∧ ∃ tp, Rp w G.F c [x] tp ∧ ∀ b ∈ tp, b ∈ G.tk r)) := by
  cases v with
  | pv r ix ss =>
    obtain ⟨p, h1, L1, L2, r1, r2, _⟩ := Runs.bind_inv hr
    obtain ⟨e, hp⟩ := rslP_snd r1
    subst e
    obtain ⟨rfl, rfl⟩ := runs_ret r2
    obtain ⟨s, nl, sz, dp, l, e⟩ := hp.own
    have hx : pval G a w r ix = some x := hv.2.2 s nl sz dp l p.2 (by rw [← e]; exact hp)
    obtain ⟨_, u, hu, hux, hrp⟩ := h.rootOk hp hx hv.2.1
    obtain ⟨vp, tp, pre, post, e1, e2, e3, _⟩ := path_rep hp hrp
    rw [e1] at hux
    cases hux
    exact ⟨rfl, .inr ⟨r, ix, ss, p.2, rfl, hp, hx, tp, e2, fun b hb => by rw [e3]; simp [hb]⟩⟩
  | _ =>
    obtain ⟨rfl, rfl⟩ := runs_ret hr
    exact ⟨rfl, .inl ⟨rfl, fun r ix ss h => by cases h⟩⟩
theorem rv_noTok {v : AV} {x : Value} {ts : List Nat} (h : RV G g a w v x ts) (ho : v.own1 = false) (ha : ∀ l, v ≠ .agg l) (ht : ∀ l, v ≠ .tup l) : ts = [] := by
  cases v with
  | any => exact h
  | ptr => exact h.1
  | pv => exact h.1
  | ea => exact h.1
  | psl => exact h.1
  | pfa => exact h.1
  | agg l => exact absurd rfl (ha l)
  | tup l => exact absurd rfl (ht l)
  | _ => exact Rp.noTok h ho ha
/-- What a move of places leaves: F grows, boxes stay, tokens shrink. -/
structure Mv (G G' : Gh) (g g' : Nat → AV) : Prop where
  F : ∀ b, G.F b → G'.F b
  bx : G'.bx = G.bx
  tk : ∀ l b, b ∈ G'.tk l → b ∈ G.tk l
  less : Less g g'
theorem Mv.refl (G : Gh) (g : Nat → AV) : Mv G G g g := ⟨fun _ h => h, rfl, fun _ _ h => h, Less.refl g⟩
theorem Mv.trans {G1 : Gh} {g1 : Nat → AV} (h : Mv G G1 g g1) (h' : Mv G1 G' g1 g') : Mv G G' g g' := ⟨fun b hb => h'.F b (h.F b hb), h'.bx.trans h.bx, fun l b hb => h.tk l b (h'.tk l b hb), h.less.trans h'.less⟩
theorem rb_pst {v c c' : AV} {ix ss : List Nat} {rb : AV → AV} (hp : Path v ix ss c rb) (h : c'.pst = []) : (rb c').pst = [] := by
  cases hp with
  | nil => exact h
  | cons _ _ => rfl
theorem fz_pst1 {c : AV} (h : c.own1 = true) : c.fz.pst = [] := by
  cases c with
  | sl o nl sz dp l => cases dp <;> rfl
  | _ => cases h
/-- A place is taken, or frozen and read on. -/
theorem plc_snd (h : Rel W0 N G g a w X) {r : Nat} {ix ss : List Nat} {x : Value} (hv : RV G g a w (.pv r ix ss) x []) {k : Nat} {fp : Bool} {v' : AV} {Imp : Nat → List AV → AV → Prop}
    (hr : Runs Imp ((rslP r ix ss).bind fun p => if fp then .wr r (p.2 p.1.fz) (.ret p.1.fz) else .wr r (p.2 .any) (.ret (p.1.st1 (k + 1)))) g v' g' L) :
    ∃ G' ts' u, Rel W0 N G' g' a w (ts' ++ X) ∧ Rp w G'.F v' [x] ts' ∧ Mv G G' g g' ∧ Stp (k + 1) v' ∧ v'.flat = true ∧ g' = upd g r u ∧ (∀ l, v' ≠ .agg l) ∧ v'.pst = [] := by
  obtain ⟨p, h1, L1, L2, r1, r2, _⟩ := Runs.bind_inv hr
  obtain ⟨e, hp⟩ := rslP_snd r1
  subst e
  obtain ⟨s, nl, sz, dp, l, e⟩ := hp.own
  have hx : pval G a w r ix = some x := hv.2.2 s nl sz dp l p.2 (by rw [← e]; exact hp)
  have hfl : ∀ n, r ≠ loc n 999 := fun n => loc999 h hp hx hv.2.1
  cases fp with
  | true =>
    simp only [if_true] at r2
    obtain ⟨_, r3⟩ := runs_upd r2
    obtain ⟨rfl, rfl⟩ := runs_ret r3
    obtain ⟨G', k1, k2, k3, k4, k5⟩ := h.fzP hp hx hv.2.1 hfl
    refine ⟨G', [], _, k1, k2, ⟨k3, k4, k5, Less.upd (rb_pst hp (fz_pst1 (by rw [e]; rfl)))⟩, ⟨fun s' nl' sz' dp' l' h' => ?_, fun cs h' => ?_⟩, fz_flat (by rw [e]; rfl), rfl, fun l' h' => ?_, fz_pst1 (by rw [e]; rfl)⟩
    · have := fz_own1 p.1; rw [h'] at this; cases this
    · rw [e] at h'; cases dp <;> cases h'
    · rw [e] at h'; cases dp <;> cases h'
  | false =>
    simp only [Bool.false_eq_true, if_false] at r2
    obtain ⟨_, r3⟩ := runs_upd r2
    obtain ⟨rfl, rfl⟩ := runs_ret r3
    obtain ⟨G', tp, k1, k2, k3, k4, k5⟩ := h.takeP hp hx hv.2.1 hfl
    refine ⟨G', tp, _, k1, k2.st1 _, ⟨fun b hb => (by rw [k3]; exact hb), k4, k5, Less.upd (rb_pst hp rfl)⟩, ⟨fun s' nl' sz' dp' l' h' => ?_, fun cs h' => ?_⟩, (by rw [e]; rfl), rfl, fun l' h' => ?_, (by rw [e]; rfl)⟩
    · rw [e] at h'; simp only [AV.st1] at h'; cases h'; rfl
    · rw [e] at h'; cases h'
    · rw [e] at h'; cases h'
theorem stp_flat {k : Nat} {v : AV} (ho : v.own1 = false) (ha : ∀ l, v ≠ .agg l) : Stp k v := ⟨fun s nl sz dp l h => (by rw [h] at ho; cases ho), fun cs h => absurd h (ha cs)⟩
/-- What is neither a holder nor a place: frozen or stamped it is the same. -/
theorem idle_rv {v : AV} {x : Value} {ts : List Nat} (h : RV G g a w v x ts) (ho : v.own1 = false) (ha : ∀ l, v ≠ .agg l) (ht : ∀ l, v ≠ .tup l) (fd : Bool) (k : Nat) : RV G g a w (if fd then v.fz else v.st1 k) x [] ∧ (if fd then v.fz else v.st1 k).own1 = false ∧ (∀ l, (if fd then v.fz else v.st1 k) ≠ .agg l) ∧ (if fd then v.fz else v.st1 k).pst = v.pst := by
  have e := rv_noTok h ho ha ht
  subst e
  cases v with
  | any => cases fd <;> exact ⟨rfl, rfl, fun l h => (by cases h), rfl⟩
  | ptr => cases fd <;> exact ⟨h, rfl, fun l h => (by cases h), rfl⟩
  | pv => cases fd <;> exact ⟨h, rfl, fun l h => (by cases h), rfl⟩
  | ea => cases fd <;> exact ⟨h, rfl, fun l h => (by cases h), rfl⟩
  | psl => cases fd <;> exact ⟨h, rfl, fun l h => (by cases h), rfl⟩
  | pfa => cases fd <;> exact ⟨h, rfl, fun l h => (by cases h), rfl⟩
  | agg l => exact absurd rfl (ha l)
  | tup l => exact absurd rfl (ht l)
  | sl o nl sz dp l =>
    cases o with
    | some s => cases ho
    | none =>
      cases fd with
      | true =>
        have h2 : RV G g a w ((AV.sl none nl sz dp l).fz) x [] := RV.of (Rp.toFz h (fun _ hb => hb) (fun _ hb => by cases hb)) (fz_flat rfl)
        exact ⟨h2, fz_own1 _, fun l' h' => (by cases dp <;> cases h'), by cases dp <;> rfl⟩
      | false => exact ⟨h, rfl, fun l h => (by cases h), rfl⟩
  | b x => cases fd <;> exact ⟨h, rfl, fun l h => (by cases h), rfl⟩
  | i k n => cases fd <;> exact ⟨h, rfl, fun l h => (by cases h), rfl⟩
  | s x => cases fd <;> exact ⟨h, rfl, fun l h => (by cases h), rfl⟩
  | fa l => cases fd <;> exact ⟨h, rfl, fun l h => (by cases h), rfl⟩
theorem tkc_snd (h : Rel W0 N G g a w X) {v : AV} {x : Value} {ts : List Nat} (hv : RV G g a w v x ts) (ho : v.own1 = false) (ha : ∀ l, v ≠ .agg l) (ht : ∀ l, v ≠ .tup l) {k : Nat} {fd fp : Bool} {v' : AV} {Imp : Nat → List AV → AV → Prop} (hr : Runs Imp (tkc k fd fp v) g v' g' L) :
    ∃ G' ts', Rel W0 N G' g' a w (ts' ++ X) ∧ RV G' g' a w v' x ts' ∧ Mv G G' g g' ∧ Stp (k + 1) v' ∧ (∀ l, v' ≠ .agg l) := by
  have e := rv_noTok hv ho ha ht
  subst e
  by_cases hpv : ∃ r ix ss, v = .pv r ix ss
  · obtain ⟨r, ix, ss, rfl⟩ := hpv
    obtain ⟨G', ts', u, k1, k2, k3, k4, k5, k6, k7, k8⟩ := plc_snd h hv hr
    exact ⟨G', ts', k1, RV.of k2 k5, k3, k4, k7⟩
  · have e : tkc k fd fp v = .fc [if fd then v.fz else v.st1 (k + 1)] fun l => .ret (l.headD .any) := by
      cases v <;> first | rfl | exact absurd ⟨_, _, _, rfl⟩ hpv
    rw [e] at hr
    replace hr := runs_fc hr
    obtain ⟨rfl, rfl⟩ := runs_ret hr
    obtain ⟨h1, h2, h3, h4⟩ := idle_rv hv ho ha ht fd (k + 1)
    exact ⟨G, [], h, h1, Mv.refl G _, stp_flat h2 h3, h3⟩
theorem cat_shift (n : Nat) (t0 : List Nat) (tf : Nat → List Nat) : (List.range (n + 1)).flatMap (fun j => if j = 0 then t0 else tf (j - 1)) = t0 ++ (List.range n).flatMap tf := by
  rw [Nat.add_comm, List.range_add, List.flatMap_append, List.flatMap_map]
  simp [List.range_succ, Nat.add_comm 1]
/-- The cells of an aggregate in a slot. -/
theorem tkl_snd {t : Nat} (ht : t < N) {l : List AV} (hno : l.any AV.own1 = false) (hcl : l.all AV.cel1 = true) {arr : Array Value} (ha : a.tmps.getD t undef = .agg arr) {k : Nat} {fd fp : Bool} {Imp : Nat → List AV → AV → Prop} : ∀ {m : Nat} {j : Nat} {G : Gh} {g : Nat → AV} {X : List Nat} {vs : List AV} {L : Lg}, l.length = j + m → Rel W0 N G g a w X → g t = .agg l → Runs Imp (tkl k fd fp (l.drop j)) g vs g' L →
    ∃ G' tf, Rel W0 N G' g' a w ((List.range vs.length).flatMap tf ++ X) ∧ vs.length = m ∧ (∀ i v y, vs[i]? = some v → arr[j + i]? = some y → Rp w G'.F v [y] (tf i) ∧ Stp (k + 1) v ∧ v.pst = [] ∧ ∀ l', v ≠ .agg l') ∧ Mv G G' g g'
  | 0, j, G, g, X, vs, L, hm, h, hg, hr => by
    rw [List.drop_eq_nil_of_le (by omega)] at hr
    obtain ⟨rfl, rfl⟩ := runs_ret hr
    exact ⟨G, fun _ => [], by simpa using h, rfl, fun i v y hv => by simp at hv, Mv.refl G _⟩
  | m + 1, j, G, g, X, vs, L, hm, h, hg, hr => by
    have hjl : j < l.length := by omega
    rw [List.drop_eq_getElem_cons hjl] at hr
    obtain ⟨v1, g1, L1, L2, r1, r2, _⟩ := Runs.bind_inv hr
    obtain ⟨vs1, g2, L3, L4, r3, r4, _⟩ := Runs.bind_inv r2
    obtain ⟨rfl, rfl⟩ := runs_ret r4
    have hsl := h.sl t ht
    rw [hg, ha] at hsl
    obtain ⟨arr', e1, hsz, tf0, htf, hcell⟩ := hsl
    cases e1
    have hjy : arr[j]? = some (arr[j]'(by omega)) := Array.getElem?_eq_getElem (by omega)
    have hc := hcell j l[j] _ (List.getElem?_eq_getElem hjl) hjy
    have hoj : l[j].own1 = false := by
      have := List.any_eq_false.1 hno l[j] (List.getElem_mem hjl)
      simpa using this
    -- the cell
    obtain ⟨G1, ts1, k1, k2, k3, k4, k5, k6, k7⟩ : ∃ G1 ts1, Rel W0 N G1 g1 a w (ts1 ++ X) ∧ Rp w G1.F v1 [arr[j]'(by omega)] ts1 ∧ Mv G G1 g g1 ∧ Stp (k + 1) v1 ∧ v1.pst = [] ∧ (∀ l', v1 ≠ .agg l') ∧ g1 t = .agg l := by
      by_cases hpv : ∃ r ix ss, l[j] = .pv r ix ss
      · obtain ⟨r, ix, ss, e⟩ := hpv
        rw [e] at hc r1
        have hv0 : RV G g a w (.pv r ix ss) (arr[j]'(by omega)) [] := ⟨rfl, hc.2.1, hc.2.2⟩
        obtain ⟨G1, ts1, u, q1, q2, q3, q4, q5, q6, q7, q8⟩ := plc_snd h hv0 r1
        refine ⟨G1, ts1, q1, q2, q3, q4, q8, q7, ?_⟩
        rw [q6]
        by_cases er : t = r
        · subst er
          obtain ⟨p, h1, L1', L2', r1', r2', _⟩ := Runs.bind_inv r1
          obtain ⟨e', hp⟩ := rslP_snd r1'
          subst e'
          rw [hg] at hp
          cases hp
        · rw [upd_ne er]; exact hg
      · have hRp : Rp w G.F l[j] [arr[j]'(by omega)] (tf0 j) := by
          revert hc
          cases hl : l[j] <;> intro hc <;> first | exact hc | exact False.elim hc | exact absurd ⟨_, _, _, hl⟩ hpv
        have e : tkc k fd fp l[j] = .fc [if fd then l[j].fz else l[j].st1 (k + 1)] fun l => .ret (l.headD .any) := by
          revert hpv
          cases l[j] <;> intro hpv <;> first | rfl | exact absurd ⟨_, _, _, rfl⟩ hpv
        rw [e] at r1
        replace r1 := runs_fc r1
        obtain ⟨rfl, rfl⟩ := runs_ret r1
        by_cases hag : ∃ l', l[j] = .agg l'
        · obtain ⟨l', h'⟩ := hag
          have := List.all_eq_true.1 hcl l[j] (List.getElem_mem hjl)
          rw [h'] at this; cases this
        · have hag : ∀ l', l[j] ≠ .agg l' := fun l' h' => hag ⟨l', h'⟩
          have htn := hRp.noTok hoj hag
          rw [htn] at hRp
          cases fd with
          | true =>
            simp only [if_true]
            have h5 := hRp.toFz (F' := G.F) (fun _ hb => hb) (fun _ hb => by cases hb)
            refine ⟨G, [], h, h5, Mv.refl G _, stp_flat (fz_own1 _) (fun l' h' => ?_), ?_, fun l' h' => ?_, hg⟩
            · cases hl : l[j] <;> rw [hl] at h' hag <;> first | (cases h'; done) | exact hag _ rfl | skip
              rename_i o nl sz dp l2
              cases dp <;> cases h'
            · cases hl : l[j] <;> rw [hl] at hag hRp <;> first | rfl | exact absurd rfl (hag _) | (cases hRp; done) | skip
              rename_i o nl sz dp l2
              cases dp <;> rfl
            · cases hl : l[j] <;> rw [hl] at h' hag <;> first | (cases h'; done) | exact hag _ rfl | skip
              rename_i o nl sz dp l2
              cases dp <;> cases h'
          | false =>
            simp only [Bool.false_eq_true, if_false]
            have e2 : l[j].st1 (k + 1) = l[j] := by
              cases hl : l[j] <;> rw [hl] at hoj <;> first | rfl | skip
              rename_i o nl sz dp l2
              cases o <;> first | rfl | cases hoj
            rw [e2]
            refine ⟨G, [], h, hRp, Mv.refl G _, stp_flat hoj hag, ?_, hag, hg⟩
            cases hl : l[j] <;> rw [hl] at hag hRp <;> first | rfl | exact absurd rfl (hag _) | (cases hRp; done)
    obtain ⟨G2, tf, q1, q2, q3, q4⟩ := tkl_snd ht hno hcl ha (m := m) (j := j + 1) (by omega) k1 k7 r3
    refine ⟨G2, fun i => if i = 0 then ts1 else tf (i - 1), ?_, by simp [q2], fun i v y hv hy => ?_, k3.trans q4⟩
    · rw [List.length_cons, cat_shift]
      have hnd := q1.xn
      refine q1.drop (fun b hb => ?_) ?_
      · simp only [List.mem_append] at hb ⊢
        rcases hb with (hb | hb) | hb <;> simp [hb]
      · obtain ⟨n1, n2, n3⟩ := List.nodup_append.1 hnd
        obtain ⟨n4, n5, n6⟩ := List.nodup_append.1 n2
        refine List.nodup_append.2 ⟨List.nodup_append.2 ⟨n4, n1, fun x hx y hy e => n3 y hy x (List.mem_append_left _ hx) e.symm⟩, n5, fun x hx y hy => ?_⟩
        rcases List.mem_append.1 hx with hx | hx
        · exact n6 x hx y hy
        · exact n3 x hx y (List.mem_append_right _ hy)
    · cases i with
      | zero =>
        simp only [List.getElem?_cons_zero, Option.some.injEq] at hv
        subst hv
        rw [Nat.add_zero, hjy] at hy
        cases hy
        exact ⟨k2.mono q4.F, k4, k5, k6⟩
      | succ i =>
        simp only [List.getElem?_cons_succ] at hv
        have := q3 i v y hv (by rw [show j + 1 + i = j + (i + 1) by omega]; exact hy)
        simpa using this
end
end Go.Proofs.Ytjihjjbieeofdaa.T
namespace Go.Proofs.Ytjihjjbieeofdaa.T
set_option linter.unusedSimpArgs false
set_option linter.unusedVariables false
open Go Go.RowKit
set_option linter.unusedVariables false
set_option linter.unusedSimpArgs false
section
variable {P : Program} {W0 : Bs} {N : Nat} {G G' : Gh} {g g' : Nat → AV} {a a' : Act} {w w' : World} {X X' : List Nat} {L : Lg}
theorem rw_noTok {F : Nat → Prop} {v : AV} {x : Value} {ts : List Nat} (h : RW w F v x ts) (ho : v.own2 = false) : ts = [] := by
  cases v with
  | any => exact h
  | agg l =>
    obtain ⟨arr, e, h1⟩ := h
    cases h1 with
    | agg hl hg hr =>
      refine List.flatMap_eq_nil_iff.2 (fun j hj => ?_)
      have hj := List.mem_range.1 hj
      have hx := hr j l[j] _ (List.getElem?_eq_getElem hj) (List.getElem?_eq_getElem (by omega))
      have h2 : l[j].own1 = false := by
        have := List.any_eq_false.1 ho l[j] (List.getElem_mem hj)
        simpa using this
      exact hx.noTok h2 (hg j _ (List.getElem?_eq_getElem hj))
  | sl o nl sz dp l => exact Rp.noTok h ho (fun l' e => by cases e)
  | b | i | s | fa => cases h <;> rfl
  | tup | ptr | pv | ea | psl | pfa => cases h
theorem tup_noTok {l : List AV} {x : Value} {ts : List Nat} (h : RV G g a w (.tup l) x ts) (ho : (AV.tup l).own = false) : ts = [] := by
  obtain ⟨vs, e, hs, tf, rfl, h1⟩ := h
  refine List.flatMap_eq_nil_iff.2 (fun j hj => ?_)
  have hj := List.mem_range.1 hj
  refine rw_noTok (h1 j l[j] _ (List.getElem?_eq_getElem hj) (Array.getElem?_eq_getElem (by omega))) ?_
  have := List.any_eq_false.1 ho l[j] (List.getElem_mem hj)
  simpa using this
theorem RW.st2 {F : Nat → Prop} {v : AV} {x : Value} {ts : List Nat} (h : RW w F v x ts) (k : Nat) : RW w F (v.st2 k) x ts := by
  cases v with
  | any => exact h
  | agg l =>
    obtain ⟨arr, e, h1⟩ := h
    exact ⟨arr, e, h1.st2 k⟩
  | sl o nl sz dp l =>
    have h1 : Rp w F (.sl o nl sz dp l) [x] ts := h
    cases o with
    | none => exact h1
    | some s => exact h1.st2 k
  | b | i | s | fa => exact h
  | tup | ptr | pv | ea | psl | pfa => cases h
theorem st2l_get {k : Nat} : ∀ {l : List AV} {j : Nat} {e : AV}, (AV.st2l k l)[j]? = some e → ∃ e', l[j]? = some e' ∧ e = e'.st2 k
  | [], j, e, h => by simp [AV.st2l] at h
  | v :: l, 0, e, h => by simp [AV.st2l] at h; exact ⟨v, by simp, h.symm⟩
  | v :: l, j + 1, e, h => by
    simp [AV.st2l] at h
    obtain ⟨e', h1, h2⟩ := st2l_get h
    exact ⟨e', by simpa using h1, h2⟩
theorem st2l_len (k : Nat) : ∀ l : List AV, (AV.st2l k l).length = l.length
  | [] => rfl
  | v :: l => by simp [AV.st2l, st2l_len k l]
theorem rv_cells {l : List AV} {x : Value} {ts : List Nat} (h : RV G g a w (.agg l) x ts) (hp : l.all AV.plain1 = true) : ∃ arr : Array Value, x = .agg arr ∧ Rp w G.F (.agg l) arr.toList ts := by
  obtain ⟨arr, e, hs, tf, rfl, h1⟩ := h
  have hpl : ∀ {j : Nat} {v : AV}, l[j]? = some v → v.plain1 = true := fun hv => List.all_eq_true.1 hp _ (List.mem_of_getElem? hv)
  refine ⟨arr, e, .agg (by simpa using hs) (fun j v hv l' h' => ?_) (fun j v y hv hy => ?_)⟩
  · have := hpl hv; rw [h'] at this; cases this
  · have h2 := h1 j v y hv (by simpa using hy)
    have h3 := hpl hv
    cases v <;> first | exact h2 | cases h3
theorem rp_rv {l : List AV} {arr : Array Value} {ts : List Nat} (h : Rp w G.F (.agg l) arr.toList ts) : RV G g a w (.agg l) (.agg arr) ts := by
  cases h with
  | @agg _ _ tf hl hg hr =>
    refine ⟨arr, rfl, by simpa using hl, tf, rfl, fun j e y he hy => ?_⟩
    have h1 := hr j e y he (by simpa using hy)
    have h2 := hg j e he
    cases e with
    | pv => cases h1
    | agg l' => exact absurd rfl (h2 l')
    | _ => exact h1
theorem stl_stp {k : Nat} {l : List AV} {s : Nat} {nl : Option Bool} {sz : Nat} {dp : Bool} {l' : List AV} (h : .sl (some s) nl sz dp l' ∈ AV.stl k l) : s = k := by
  obtain ⟨j, hj⟩ := List.getElem?_of_mem h
  obtain ⟨e, he, h1⟩ := stl_get hj
  cases e with
  | sl o nl2 sz2 dp2 l2 =>
    cases o with
    | none => cases h1
    | some s' => simp only [AV.st1] at h1; cases h1; rfl
  | _ => cases h1
theorem fzL_own {l : List AV} {s : Nat} {nl : Option Bool} {sz : Nat} {dp : Bool} {l' : List AV} (h : .sl (some s) nl sz dp l' ∈ AV.fzL l) : False := by
  obtain ⟨j, hj⟩ := List.getElem?_of_mem h
  obtain ⟨e, he, h1⟩ := fzL_get hj
  have := fz_own1 e
  rw [← h1] at this
  cases this
theorem fzL_pst {l : List AV} (hp : l.all AV.plain1 = true) : (AV.agg (AV.fzL l)).pst = [] := by
  refine List.flatMap_eq_nil_iff.2 (fun v hv => ?_)
  obtain ⟨j, hj⟩ := List.getElem?_of_mem hv
  obtain ⟨e, he, rfl⟩ := fzL_get hj
  have := List.all_eq_true.1 hp _ (List.mem_of_getElem? he)
  cases e with
  | sl o nl sz dp l => cases dp <;> rfl
  | any | b | i | s | fa => rfl
  | _ => cases this
theorem rv_noTok' {l : List AV} {x : Value} {ts : List Nat} (h : RV G g a w (.agg l) x ts) (ho : (AV.agg l).own2 = false) (hpl : l.all AV.plain1 = true) : ts = [] := by
  obtain ⟨arr, e, hs, tf, rfl, h1⟩ := h
  refine List.flatMap_eq_nil_iff.2 (fun j hj => ?_)
  have hj := List.mem_range.1 hj
  have h2 := h1 j l[j] _ (List.getElem?_eq_getElem hj) (Array.getElem?_eq_getElem (by omega))
  have h3 : l[j].own1 = false := by
    have := List.any_eq_false.1 ho l[j] (List.getElem_mem hj)
    simpa using this
  have h4 := List.all_eq_true.1 hpl l[j] (List.getElem_mem hj)
  revert h2 h3 h4
  generalize l[j] = v
  intro h2 h3 h4
  cases v with
  | pv => exact h2.1
  | agg l' => cases h4
  | _ => exact Rp.noTok h2 h3 (fun l' e => by cases e)
theorem tkv_snd (h : Rel W0 N G g a w X) {t : Nat} (ht : t < N) {k : Nat} {fd fp : Bool} {v' : AV} {Imp : Nat → List AV → AV → Prop} (hr : Runs Imp (tkv k fd fp t (g t)) g v' g' L) :
    ∃ G' ts', Rel W0 N G' g' a w (ts' ++ X) ∧ RV G' g' a w v' (a.tmps.getD t undef) ts' ∧ Mv G G' g g' ∧ Stp (k + 1) v' := by
  have hsl := h.sl t ht
  cases hg : g t with
  | agg l =>
    rw [hg] at hr hsl
    simp only [tkv, tklK_eq] at hr
    split at hr
    · split at hr
      · rename_i hpl
        obtain ⟨arr, e, hRp⟩ := rv_cells hsl hpl
        split at hr
        · obtain ⟨_, r1⟩ := runs_upd hr
          obtain ⟨rfl, rfl⟩ := runs_ret r1
          have hfz : ∀ F' : Nat → Prop, (∀ b, G.F b → F' b) → (∀ b ∈ G.tk t, F' b) → Rp w F' (AV.agg (AV.fzL l)) arr.toList [] := fun F' h1 h2 => hRp.toFz h1 h2
          obtain ⟨G', k1, k2, k3, k4, k5⟩ := h.fzS ht (v' := .agg (AV.fzL l)) (by rw [e]; exact rp_rv (hfz _ (fun b hb => .inl hb) (fun b hb => .inr hb))) rfl
          refine ⟨G', [], k1, ?_, ⟨k2, k4, k5, Less.upd (fzL_pst hpl)⟩, ⟨fun s nl sz dp l' h' => (by cases h'), fun cs h' s nl sz dp l' hm => ?_⟩⟩
          · rw [e]
            exact rp_rv (hfz _ k2 k3)
          · cases h'
            exact (fzL_own hm).elim
        · obtain ⟨_, r1⟩ := runs_upd hr
          obtain ⟨rfl, rfl⟩ := runs_ret r1
          obtain ⟨G', k1, k2, k3, k4, _⟩ := h.takeS ht
          refine ⟨G', G.tk t, k1, ?_, ⟨fun b hb => (by rw [k2]; exact hb), k3, k4, Less.upd rfl⟩, ⟨fun s nl sz dp l' h' => (by cases h'), fun cs h' s nl sz dp l' hm => ?_⟩⟩
          · rw [e]
            have h5 := hRp.st2 (k + 1)
            rw [← k2] at h5
            exact rp_rv h5
          · cases h'
            exact stl_stp hm
      · exact (runs_fail hr).elim
    · rename_i hno
      split at hr
      · rename_i hpl
        have h0 : G.tk t = [] := rv_noTok' hsl (by simpa [AV.own2] using hno) hpl
        obtain ⟨arr, e, hRp⟩ := rv_cells hsl hpl
        rw [h0] at hRp
        split at hr
        · have r1 := runs_fc hr
          obtain ⟨rfl, rfl⟩ := runs_ret r1
          refine ⟨G, [], h, ?_, Mv.refl G _, ⟨fun s nl sz dp l' h' => (by cases h'), fun cs h' s nl sz dp l' hm => ?_⟩⟩
          · rw [e]
            exact rp_rv (hRp.toFz (fun _ hb => hb) (fun b hb => by cases hb))
          · cases h'
            exact (fzL_own hm).elim
        · obtain ⟨rfl, rfl⟩ := runs_ret hr
          refine ⟨G, [], h, ?_, Mv.refl G _, ⟨fun s nl sz dp l' h' => (by cases h'), fun cs h' s nl sz dp l' hm => ?_⟩⟩
          · rw [e]
            exact rp_rv hRp
          · cases h'
            exact absurd (List.any_eq_true.2 ⟨_, hm, rfl⟩) hno
      split at hr
      · rename_i hcl
        obtain ⟨vs, g1, L1, L2, r1, r2, _⟩ := Runs.bind_inv hr
        obtain ⟨rfl, rfl⟩ := runs_ret r2
        obtain ⟨arr, e, hs, tf0, _, _⟩ := hsl
        have hno' : l.any AV.own1 = false := by simpa using hno
        obtain ⟨G', tf, k1, k2, k3, k4⟩ := tkl_snd ht hno' hcl e (m := l.length) (j := 0) (by omega) h hg (by simpa using r1)
        refine ⟨G', _, k1, ?_, k4, ⟨fun s nl sz dp l' h' => (by cases h'), fun cs h' s nl sz dp l' hm => ?_⟩⟩
        · rw [e]
          refine rp_rv (.agg (by rw [k2]; simpa using hs) (fun j v hv => ?_) (fun j v y hv hy => ?_))
          · have hj := lt_of_get hv
            exact (k3 j v (arr[j]'(by omega)) hv (by rw [Nat.zero_add]; exact Array.getElem?_eq_getElem _)).2.2.2
          · exact (k3 j v y hv (by rw [Nat.zero_add]; simpa using hy)).1
        · cases h'
          obtain ⟨j, hj⟩ := List.getElem?_of_mem hm
          have hjl := lt_of_get hj
          exact (k3 j _ (arr[j]'(by omega)) hj (by rw [Nat.zero_add]; exact Array.getElem?_eq_getElem _)).2.1.1 _ _ _ _ _ rfl
      · exact (runs_fail hr).elim
  | tup l =>
    rw [hg] at hr hsl
    simp only [tkv, tklK_eq] at hr
    split at hr
    · obtain ⟨_, r1⟩ := runs_upd hr
      obtain ⟨rfl, rfl⟩ := runs_ret r1
      obtain ⟨G', k1, k2, k3, k4, _⟩ := h.takeS ht
      refine ⟨G', G.tk t, k1, ?_, ⟨fun b hb => (by rw [k2]; exact hb), k3, k4, Less.upd rfl⟩, ⟨fun s nl sz dp l' h' => (by cases h'), fun cs h' => by cases h'⟩⟩
      obtain ⟨vs, e, hs, tf, e2, h1⟩ := hsl
      refine ⟨vs, e, by rw [st2l_len]; exact hs, tf, by rw [st2l_len]; exact e2, fun j v y hv hy => ?_⟩
      obtain ⟨v0, hv0, rfl⟩ := st2l_get hv
      rw [k2]
      exact (h1 j v0 y hv0 hy).st2 (k + 1)
    · rename_i hno
      obtain ⟨rfl, rfl⟩ := runs_ret hr
      have htn := tup_noTok hsl (by simpa using hno)
      rw [htn] at hsl
      exact ⟨G, [], h, hsl, Mv.refl G _, ⟨fun s nl sz dp l' h' => (by cases h'), fun cs h' => by cases h'⟩⟩
  | sl o nl sz dp l =>
    cases o with
    | none =>
      rw [hg] at hr hsl
      simp only [tkv, tklK_eq] at hr
      obtain ⟨G', ts', k1, k2, k3, k4, _⟩ := tkc_snd h hsl rfl (fun l h => by cases h) (fun l h => by cases h) hr
      exact ⟨G', ts', k1, k2, k3, k4⟩
    | some s =>
      rw [hg] at hr hsl
      simp only [tkv, tklK_eq] at hr
      have hRp : Rp w G.F (.sl (some s) nl sz dp l) [a.tmps.getD t undef] (G.tk t) := hsl
      split at hr
      · obtain ⟨_, r1⟩ := runs_upd hr
        obtain ⟨rfl, rfl⟩ := runs_ret r1
        obtain ⟨G', k1, k2, k3, k4, k5⟩ := h.fzS ht (v' := (AV.sl (some s) nl sz dp l).fz) (RV.of (hRp.toFz (fun b hb => .inl hb) (fun b hb => .inr hb)) (fz_flat rfl)) (fz_own1 _)
        exact ⟨G', [], k1, RV.of (hRp.toFz k2 k3) (fz_flat rfl), ⟨k2, k4, k5, Less.upd (fz_pst1 rfl)⟩, stp_flat (fz_own1 _) (fz_nagg (fun l' h' => by cases h'))⟩
      · obtain ⟨_, r1⟩ := runs_upd hr
        obtain ⟨rfl, rfl⟩ := runs_ret r1
        obtain ⟨G', k1, k2, k3, k4, _⟩ := h.takeS ht
        refine ⟨G', G.tk t, k1, ?_, ⟨fun b hb => (by rw [k2]; exact hb), k3, k4, Less.upd rfl⟩, ⟨fun s nl sz dp l' h' => (by cases h'; rfl), fun cs h' => by cases h'⟩⟩
        have h5 := hRp.st1 (k + 1)
        rw [← k2] at h5
        exact h5
  | _ =>
    rw [hg] at hr hsl
    simp only [tkv, tklK_eq] at hr
    obtain ⟨G', ts', k1, k2, k3, k4, _⟩ := tkc_snd h hsl rfl (fun l h => by cases h) (fun l h => by cases h) hr
    exact ⟨G', ts', k1, k2, k3, k4⟩
theorem take_snd (h : Rel W0 N G g a w X) {x : Operand} (hx : opOk N x) {k : Nat} {fd fp : Bool} {v' : AV} {Imp : Nat → List AV → AV → Prop} (hr : Runs Imp (take k fd fp x) g v' g' L) :
    ∃ G' ts', Rel W0 N G' g' a w (ts' ++ X) ∧ RV G' g' a w v' (a.eval x) ts' ∧ Mv G G' g g' ∧ Stp (k + 1) v' := by
  cases x with
  | tmp t =>
    obtain ⟨_, h1⟩ := runs_rd hr
    exact tkv_snd h (hx t rfl) h1
  | const c =>
    obtain ⟨rfl, rfl⟩ := runs_ret hr
    obtain ⟨ts, h1, rfl⟩ := ofVal_rv (G := G) (g := g') (a := a) (w := w) c
    cases fd with
    | true =>
      have e : a.eval (.const c) = c := rfl
      obtain ⟨_, h2, h3⟩ := ofVal_flat c
      rw [e]
      refine ⟨G, [], h, ?_, Mv.refl G _, stp_flat (fz_own1 _) (fz_nagg h2)⟩
      cases hv : ofVal c with
      | sl o nl sz dp l =>
        rw [hv] at h1
        have h1 : Rp w G.F (.sl o nl sz dp l) [c] [] := h1
        exact RV.of (h1.toFz (fun _ hb => hb) (fun b hb => by cases hb)) (fz_flat rfl)
      | agg l => exact absurd hv (h2 l)
      | tup l => exact absurd hv (h3 l)
      | _ => rw [hv] at h1; exact h1
    | false =>
    refine ⟨G, [], h, ?_, Mv.refl G _, ?_⟩
    · have e : a.eval (.const c) = c := rfl
      rw [e]
      obtain ⟨_, h2, h3⟩ := ofVal_flat c
      cases hv : ofVal c with
      | sl o nl sz dp l =>
        rw [hv] at h1
        have h1 : Rp w G.F (.sl o nl sz dp l) [c] [] := h1
        cases o with
        | none => exact h1
        | some s => exact h1.st1 (k + 1)
      | agg l => exact absurd hv (h2 l)
      | tup l => exact absurd hv (h3 l)
      | _ => rw [hv] at h1; exact h1
    · obtain ⟨_, h2, h3⟩ := ofVal_flat c
      refine ⟨fun s nl sz dp l h' => ?_, fun cs h' => ?_⟩
      · cases hv : ofVal c with
        | sl o nl' sz' dp' l' =>
          rw [hv] at h'
          cases o with
          | none => cases h'
          | some s' => simp only [AV.st1] at h'; cases h'; rfl
        | _ => rw [hv] at h'; cases h'
      · exact absurd h' (st1_nagg h2 cs)
  | global _ => exact (runs_fail hr).elim
  | func _ => exact (runs_fail hr).elim
end
end Go.Proofs.Ytjihjjbieeofdaa.T
namespace Go.Proofs.Ytjihjjbieeofdaa.T
set_option linter.unusedSimpArgs false
set_option linter.unusedVariables false
open Go Go.RowKit
set_option linter.unusedVariables false
set_option linter.unusedSimpArgs false
section
variable {P : Program} {W0 : Bs} {N : Nat} {G G' : Gh} {g g' : Nat → AV} {a a' : Act} {w w' : World} {X X' : List Nat} {L : Lg}
theorem RW.mono {F F' : Nat → Prop} {v : AV} {x : Value} {ts : List Nat} (h : RW w F v x ts) (hF : ∀ b, F b → F' b) : RW w F' v x ts := by
  cases v with
  | any => exact h
  | agg l => obtain ⟨arr, e, h1⟩ := h; exact ⟨arr, e, h1.mono hF⟩
  | _ => exact Rp.mono h hF
/-- Of an argument: read only. -/
theorem rv_arg {v : AV} {x : Value} {ts : List Nat} (h : RV G g a w v x ts) (ho : v.argOk = true) {F' : Nat → Prop} (hF : ∀ b, G.F b → F' b) (ht : ∀ b ∈ ts, F' b) : RW w F' v.fz x [] := by
  cases v with
  | any => exact rfl
  | agg l =>
    obtain ⟨arr, e, h1⟩ := rv_cells h ho
    exact ⟨arr, e, h1.toFz hF ht⟩
  | sl o nl sz dp l =>
    have h1 : Rp w G.F (.sl o nl sz dp l) [x] ts := h
    have h2 := h1.toFz hF ht
    cases dp <;> exact h2
  | b | i | s | fa => exact Rp.toFz h hF ht
  | _ => cases ho
theorem args_snd (h : Rel W0 N G g a w X) {Imp : Nat → List AV → AV → Prop} : ∀ {xs : List Operand} {ars : List AV} {L : Lg}, (∀ x ∈ xs, opOk N x) → Runs Imp (args xs) g ars g' L → g' = g ∧ ars.length = xs.length ∧ ∀ (j : Nat) (e : AV) (x : Operand), ars[j]? = some e → xs[j]? = some x → RW w (fun b => G.F b ∨ ∃ l, b ∈ G.tk l) e (a.eval x) []
  | [], ars, L, _, hr => by
    obtain ⟨rfl, rfl⟩ := runs_ret hr
    exact ⟨rfl, rfl, fun j e x he => by simp at he⟩
  | x :: xs, ars, L, hx, hr => by
    obtain ⟨e0, g1, L1, L2, r1, r2, _⟩ := Runs.bind_inv hr
    obtain ⟨as1, g2, L3, L4, r3, r4, _⟩ := Runs.bind_inv r2
    obtain ⟨rfl, rfl⟩ := runs_ret r4
    obtain ⟨v, g3, L5, L6, r5, r6, _⟩ := Runs.bind_inv r1
    obtain ⟨c, g4, L7, L8, r7, r8, _⟩ := Runs.bind_inv r6
    obtain ⟨e1, ts, hv, htk⟩ := rdo_snd h (hx x List.mem_cons_self) r5
    have e1 := e1.symm
    subst e1
    obtain ⟨e1, hc⟩ := look_snd h hv r7
    have e1 := e1.symm
    subst e1
    split at r8
    · rename_i hok
      obtain ⟨rfl, e1⟩ := runs_ret r8
      have e1 := e1.symm
      subst e1
      obtain ⟨e2, k1, k2⟩ := args_snd h (fun y hy => hx y (List.mem_cons_of_mem _ hy)) r3
      refine ⟨e2, by simp [k1], fun j e y he hy => ?_⟩
      cases j with
      | zero =>
        simp only [List.getElem?_cons_zero, Option.some.injEq] at he hy
        subst he; subst hy
        have tmps : ∀ b, b ∈ ts → G.F b ∨ ∃ l, b ∈ G.tk l := by
          intro b hb
          exact .inr (htk b hb)
        rcases hc with ⟨rfl, _⟩ | ⟨r, ix, ss, rb, rfl, hp, hpv, tp, hRp, htp⟩
        · exact rv_arg hv hok (fun b hb => .inl hb) tmps
        · obtain ⟨s, nl, sz, dp, l, e⟩ := hp.own
          have h2 := hRp.toFz (F' := fun b => G.F b ∨ ∃ l, b ∈ G.tk l) (fun b hb => .inl hb) (fun b hb => .inr ⟨r, htp b hb⟩)
          rw [e] at h2 ⊢
          cases dp <;> exact h2
      | succ j =>
        simp only [List.getElem?_cons_succ] at he hy
        exact k2 j e y he hy
    · exact (runs_fail r8).elim
theorem takes_snd {Imp : Nat → List AV → AV → Prop} {k : Nat} : ∀ {xs : List Operand} {ars : List AV} {L : Lg} {G : Gh} {g : Nat → AV}, Rel W0 N G g a w X → (∀ x ∈ xs, opOk N x) → Runs Imp (takes k xs) g ars g' L → ars.all AV.lentOk = true →
    ∃ G', Rel W0 N G' g' a w X ∧ Mv G G' g g' ∧ ars.length = xs.length ∧ ∀ (j : Nat) (e : AV) (x : Operand), ars[j]? = some e → xs[j]? = some x → RW w G'.F e (a.eval x) []
  | [], ars, L, G, g, h, _, hr, _ => by
    obtain ⟨rfl, rfl⟩ := runs_ret hr
    exact ⟨G, h, Mv.refl G _, rfl, fun j e x he => by simp at he⟩
  | x :: xs, ars, L, G, g, h, hx, hr, ho => by
    obtain ⟨v, g1, L1, L2, r1, r2, _⟩ := Runs.bind_inv hr
    obtain ⟨as1, g2, L3, L4, r3, r4, _⟩ := Runs.bind_inv r2
    obtain ⟨rfl, rfl⟩ := runs_ret r4
    obtain ⟨hv1, ho1⟩ := Bool.and_eq_true_iff.1 ho
    obtain ⟨hv0, hfr0⟩ := Bool.and_eq_true_iff.1 hv1
    have hfr : v.own2 = false := by simpa using hfr0
    obtain ⟨G1, ts1, k1, k2, k3, k4⟩ := take_snd h (hx x List.mem_cons_self) r1
    have kd := k1.drop (X' := X) (fun b hb => List.mem_append_right _ hb) h.xn
    obtain ⟨G2, q1, q2, q3, q4⟩ := takes_snd kd (fun y hy => hx y (List.mem_cons_of_mem _ hy)) r3 ho1
    refine ⟨G2, q1, k3.trans q2, by simp [q3], fun j e y he hy => ?_⟩
    cases j with
    | zero =>
      simp only [List.getElem?_cons_zero, Option.some.injEq] at he hy
      subst he; subst hy
      have e0 : ts1 = [] := by
        cases v with
        | any => exact k2
        | agg l => exact rv_noTok' k2 hfr hv0
        | sl o nl sz dp l => exact rv_noTok k2 (by cases o <;> first | rfl | cases hfr) (fun l h => by cases h) (fun l h => by cases h)
        | b | i | s | fa => exact rv_noTok k2 rfl (fun l h => by cases h) (fun l h => by cases h)
        | _ => cases hv0
      subst e0
      have : RW w G1.F v (a.eval x) [] := by
        cases v with
        | agg l =>
          obtain ⟨arr, e, h1⟩ := rv_cells k2 hv0
          exact ⟨arr, e, h1⟩
        | ptr | pv | ea | tup | psl | pfa => cases hv0
        | _ => exact k2
      exact this.mono q2.F
    | succ j =>
      simp only [List.getElem?_cons_succ] at he hy
      exact q4 j e y he hy
end
end Go.Proofs.Ytjihjjbieeofdaa.T
namespace Go.Proofs.Ytjihjjbieeofdaa.T
set_option linter.unusedSimpArgs false
set_option linter.unusedVariables false
open Go Go.RowKit
set_option linter.unusedVariables false
set_option linter.unusedSimpArgs false
section
variable {P : Program}
structure TyOk (P : Program) (t : Nat) (i : TI) (info : TypeInfo) (d : TypeDesc) (z : Value) : Prop where
  hi : P.info? t = some info
  hu : P.underlying t = some d
  size : info.size = i.size
  bytes : info.bytes = i.bytes
  k : i.k.okB d = true
  zero : info.zero = some z
  zs : zerosB i.zero z.cells.toList = true
  zn : z.cells.size = i.size
  za : (∃ fs, i.k = .st fs) ↔ ∃ cs, z = .agg cs
  pos : 0 < i.size
theorem tb_ok {tb : Tb} (h : tb.okB P = true) {t : Nat} {i : TI} (hg : tb.get t = some i) : ∃ info d z, TyOk P t i info d z := by
  have hm : (t, i) ∈ tb := by
    clear h
    induction tb with
    | nil => cases hg
    | cons p tb ih =>
      obtain ⟨t', i'⟩ := p
      unfold Tb.get at hg
      split at hg
      · rename_i e; subst e; cases hg; exact List.mem_cons_self
      · exact List.mem_cons_of_mem _ (ih hg)
  have h1 := List.all_eq_true.1 h _ hm
  unfold TI.okB at h1
  dsimp only at h1
  split at h1
  · rename_i info d e1 e2
    simp only [Bool.and_eq_true, beq_iff_eq, decide_eq_true_eq] at h1
    obtain ⟨⟨⟨⟨a1, a2⟩, a3⟩, a4⟩, a5⟩ := h1
    split at a4
    · rename_i z ez
      simp only [Bool.and_eq_true, beq_iff_eq] at a4
      obtain ⟨⟨b1, b2⟩, b3⟩ := a4
      refine ⟨info, d, z, e1, e2, a1, a2, a3, ez, b1, b2, ?_, a5⟩
      constructor
      · rintro ⟨fs, e⟩
        rw [e] at b3
        cases z with
        | agg cs => exact ⟨cs, rfl⟩
        | _ => cases b3
      · rintro ⟨cs, e⟩
        rw [e] at b3
        cases hk : i.k with
        | st fs => exact ⟨fs, rfl⟩
        | _ => rw [hk] at b3; cases b3
    · cases a4
  · cases h1
variable {t : Nat} {i : TI} {info : TypeInfo} {d : TypeDesc} {z : Value}
theorem TyOk.desc (h : TyOk P t i info d z) : match i.k with
    | .sl e => d = .slice e
    | .st fs => ∃ fields, d = .struct fields ∧ fields.toList.map (fun f => (f.offset, f.type)) = fs
    | .int k => d = .int k
    | .bool => d = .bool
    | .str => d = .string
    | .ptr => ∃ e, d = .pointer e := by
  have := h.k
  cases hk : i.k <;> rw [hk] at this <;> cases d <;> simp_all [TK.okB]
theorem TyOk.isAgg (h : TyOk P t i info d z) (w : World) : (Go.isAgg t).run P w = .ok i.isAgg w := by
  have := h.desc
  unfold Go.isAgg TI.isAgg
  cases hk : i.k <;> rw [hk] at this
  case st fs =>
    obtain ⟨fields, rfl, _⟩ := this
    simp [run_underlying h.hu]
  case ptr =>
    obtain ⟨e, rfl⟩ := this
    simp [run_underlying h.hu]
  all_goals
    subst this
    simp [run_underlying h.hu]
theorem TyOk.sizeOf (h : TyOk P t i info d z) (w : World) : (Go.sizeOf t).run P w = .ok i.size w := by
  simp [Go.sizeOf, typeInfo, h.hi, h.size]
theorem TyOk.zeroValue (h : TyOk P t i info d z) (w : World) : (Go.zeroValue t).run P w = .ok z w := by
  simp [Go.zeroValue, typeInfo, h.hi, h.zero]
end
theorem TyOk.one {P : Program} {t : Nat} {i : TI} {info : TypeInfo} {d : TypeDesc} {z : Value} (h : TyOk P t i info d z) (hag : i.isAgg = false) : i.size = 1 := by
  have h1 := h.zn
  have h2 : ∀ cs, z ≠ .agg cs := by
    intro cs e
    obtain ⟨fs, hk⟩ := h.za.2 ⟨cs, e⟩
    simp [TI.isAgg, hk] at hag
  have h3 : z.cells = #[z] := by
    cases z with
    | agg cs => exact absurd rfl (h2 cs)
    | _ => rfl
  rw [h3] at h1
  exact h1.symm
/-- What an operation's run comes to. -/
def Yl (P : Program) (o : Oper) (a : Act) (w : World) (X : Value → World → Prop) : Prop :=
  match (execOp a.eval o).run P w with
  | .ok (.value x) w' => X x w'
  | .ok .skip w' => X undef w'
  | .ok (.enter f args) w' => Calls P f args w' fun e w'' => ∃ x, e = .returned x ∧ X x w''
  | _ => False
theorem Yl.value {P : Program} {o : Oper} {a : Act} {w w' : World} {x : Value} {X : Value → World → Prop} (h : (execOp a.eval o).run P w = .ok (.value x) w') (hX : X x w') : Yl P o a w X := by unfold Yl; rw [h]; exact hX
section
variable {P : Program} {W0 : Bs} {N : Nat} {G G' : Gh} {g g' : Nat → AV} {a a' : Act} {w w' : World} {X X' : List Nat} {L : Lg} {k d : Nat}
/-- Behind an operation. -/
def Fin (W0 : Bs) (N : Nat) (g' : Nat → AV) (a : Act) (dst : Option Tmp) (x : Value) (w' : World) : Prop := ∃ G', Rel W0 N G' g' (a.put dst x) w' []
theorem put_fin {Imp : Nat → List AV → AV → Prop} (h : Rel W0 N G g a w X) (hd : d < N) {v : AV} {x : Value} {td : List Nat} (hv : RV G g a w v x td) (hX : ∃ X', X = td ++ X') (hst : ∀ s nl sz dp l, v = .sl (some s) nl sz dp l → ∀ l', s ∉ (g l').pst) (hr : Runs Imp (put d v) g () g' L) : Fin W0 N g' a (some d) x w := by
  obtain ⟨_, r1⟩ := runs_upd hr
  obtain ⟨_, rfl⟩ := runs_ret r1
  obtain ⟨X', hX⟩ := hX
  obtain ⟨G', k1, _, _⟩ := h.put hd hv hX hst
  exact ⟨G', k1.drop (fun b hb => by cases hb) List.nodup_nil⟩
/-- A value that holds nothing. -/
theorem put_idle {Imp : Nat → List AV → AV → Prop} (h : Rel W0 N G g a w X) (hd : d < N) {v : AV} {x : Value} (hv : RV G g a w v x []) (ho : v.own1 = false) (hr : Runs Imp (put d v) g () g' L) : Fin W0 N g' a (some d) x w :=
  put_fin h hd hv ⟨X, rfl⟩ (fun s nl sz dp l e => by rw [e] at ho; cases ho) hr
theorem no_stp {v : AV} (hs : Stp (k + 1) v) (hn : NoSt (k + 1) g) : ∀ s nl sz dp l, v = .sl (some s) nl sz dp l → ∀ l', s ∉ (g l').pst := fun s nl sz dp l e l' => by rw [hs.1 s nl sz dp l e]; exact hn l'
/-! ### numbers -/
theorem bin_snd {op : BinOp} {A B V : AV} {c : Prop} {x y : Value} {t : TypeId} {ox oy : Operand} {ts ts' : List Nat} (h : bin op A B = some (c, V)) (hx : RV G g a w A x ts) (hy : RV G g a w B y ts') (hc : c) : ∃ u, (do eqGuard op t ox oy x y; binOp op t x y : Sem Value).run P w = .ok u w ∧ RV G g a w V u [] ∧ V.own1 = false := by
  cases A with
  | i k m =>
    cases B with
    | i k' n =>
      cases hx; cases hy
      have eg : (eqGuard op t ox oy (.int k m) (.int k' n)).run P w = .ok () w := by cases op <;> simp [eqGuard]
      rw [Sem.run_bind, eg]
      show ∃ u, (binOp op t (.int k m) (.int k' n)).run P w = .ok u w ∧ _
      cases op <;> simp only [bin, binI] at h
      case shl =>
        cases h
        refine ⟨_, ?_, .i _ _, rfl⟩
        simp [binOp, Op.shift, hc]
        intro h2; omega
      case shr =>
        cases h
        refine ⟨_, ?_, .i _ _, rfl⟩
        simp [binOp, Op.shift, hc]
        intro h2; omega
      all_goals
        split at h <;> first | (cases h; done) | skip
        rename_i ek
        subst ek
        cases h
      all_goals first
        | (refine ⟨_, ?_, RV.of (.i _ _) rfl, rfl⟩; simp [binOp, Op.intArith, Op.intBits, Op.intDiv, hc]; done)
        | (refine ⟨_, ?_, RV.of (.b _) rfl, rfl⟩; simp [binOp, Op.intCmp]; done)
    | _ => simp [bin] at h
  | s m =>
    cases B with
    | s n =>
      cases hx; cases hy
      have eg : (eqGuard op t ox oy (.string m) (.string n)).run P w = .ok () w := by cases op <;> simp [eqGuard]
      rw [Sem.run_bind, eg]
      show ∃ u, (binOp op t (.string m) (.string n)).run P w = .ok u w ∧ _
      cases op <;> simp only [bin, binS] at h <;> first | (cases h; done) | skip
      all_goals cases h
      all_goals first
        | exact ⟨_, rfl, .b _, rfl⟩
        | (refine ⟨_, ?_, .s _, rfl⟩
           have h1 : ¬ (((m.size + n.size : Nat) : Int) > IntKind.i64.max) := by simp [IntKind.max, IntKind.bits, IntKind.signed]; omega
           simp only [binOp, Op.stringOp, if_neg h1]
           rfl)
    | _ => simp [bin] at h
  | _ => simp [bin] at h
theorem un_snd {op : UnOp} {A V : AV} {x : Value} {ts : List Nat} (h : un op A = some V) (hx : RV G g a w A x ts) : ∃ u, (Op.unary op x).run P w = .ok u w ∧ RV G g a w V u [] ∧ V.own1 = false := by
  cases A with
  | i k n =>
    cases hx
    cases op <;> simp only [un] at h <;> first | (cases h; done) | skip
    all_goals cases h
    all_goals exact ⟨_, by simp [Op.unary, Op.intArith, Op.intBits], .i _ _, rfl⟩
  | b z =>
    cases hx
    cases op <;> simp only [un] at h <;> first | (cases h; done) | skip
    cases h
    exact ⟨_, by simp [Op.unary], .b _, rfl⟩
  | _ => cases op <;> simp [un] at h
end
end Go.Proofs.Ytjihjjbieeofdaa.T
namespace Go.Proofs.Ytjihjjbieeofdaa.T
set_option linter.unusedSimpArgs false
set_option linter.unusedVariables false
open Go Go.RowKit
set_option linter.unusedVariables false
set_option linter.unusedSimpArgs false
section
variable {P : Program} {W0 : Bs} {N : Nat} {G G' : Gh} {g g' : Nat → AV} {a a' : Act} {w w' : World} {X X' : List Nat} {L : Lg} {k d : Nat} {E : Env} {o : Oper} {Imp : Nat → List AV → AV → Prop}
theorem rv_b (x : Bool) : RV G g a w (.b x) (.bool x) [] := Rp.b x
theorem rv_i (k : IntKind) (n : Int) : RV G g a w (.i k n) (.int k n) [] := Rp.i k n
theorem rv_s (x : ByteArray) : RV G g a w (.s x) (.string x) [] := Rp.s x
theorem rp_nil {F : Nat → Prop} {o : Option Nat} {n : Bool} {sz : Nat} {dp : Bool} {l : List AV} {x : Value} {ts : List Nat} (h : Rp w F (.sl o (some n) sz dp l) [x] ts) : ∃ A len cap, x = .slice A len cap ∧ A.isNone = n := by
  cases h with
  | @fz A nil sz dp l cap b off cs hc hm hn h0 hA hl hr hd hw =>
    refine ⟨_, _, _, rfl, ?_⟩
    have := hn n rfl
    cases A <;> cases n <;> simp_all
  | own0 hn => exact ⟨_, _, _, rfl, by cases n <;> simp_all⟩
  | own1 hn => exact ⟨_, _, _, rfl, by cases n <;> simp_all⟩
  | own hn => exact ⟨_, _, _, rfl, by cases n <;> simp_all⟩
theorem rp_len {F : Nat → Prop} {o : Option Nat} {n : Option Bool} {sz : Nat} {dp : Bool} {l : List AV} {x : Value} {ts : List Nat} (h : Rp w F (.sl o n sz dp l) [x] ts) : ∃ A cap, x = .slice A l.length cap ∧ l.length ≤ cap := by
  cases h with
  | fz hc => exact ⟨_, _, rfl, hc⟩
  | own0 => exact ⟨_, _, rfl, Nat.le_refl _⟩
  | own1 => exact ⟨_, _, rfl, Nat.le_refl _⟩
  | own _ _ hc => exact ⟨_, _, rfl, hc⟩
/-- What is seen: as a slice. -/
theorem look_rp (h : Rel W0 N G g a w X) {v : AV} {x : Value} {ts : List Nat} (hv : RV G g a w v x ts) {o : Option Nat} {n : Option Bool} {sz : Nat} {dp : Bool} {l : List AV} (hr : Runs Imp (look v) g (.sl o n sz dp l) g' L) : g' = g ∧ ∃ tp, Rp w G.F (.sl o n sz dp l) [x] tp := by
  obtain ⟨e, hc⟩ := look_snd h hv hr
  refine ⟨e, ?_⟩
  rcases hc with ⟨rfl, _⟩ | ⟨r, ix, ss, rb, _, _, _, tp, h1, _⟩
  · exact ⟨ts, hv⟩
  · exact ⟨tp, h1⟩
theorem binP_snd (hE : E.tb.okB P = true) (h : Rel W0 N G g a w []) {op : BinOp} {t yt : TypeId} {ox oy : Operand} (ho : o.op = .binOp op t ox oy yt) (hd : o.dst = some d) (hdn : d < N) (hox : opOk N ox) (hoy : opOk N oy) (hr : Runs Imp ((rdo ox).bind fun A => (rdo oy).bind fun B => binP op d (E.tb.get t) oy A B) g () g' L) : Yl P o a w (Fin W0 N g' a o.dst) := by
  rw [hd]
  obtain ⟨A, g1, L1, L2, r1, r2, _⟩ := Runs.bind_inv hr
  obtain ⟨e1, ts, hA, _⟩ := rdo_snd h hox r1
  subst e1
  obtain ⟨B, g1, L3, L4, r3, r4, _⟩ := Runs.bind_inv r2
  obtain ⟨e1, ts', hB, _⟩ := rdo_snd h hoy r3
  subst e1
  have hex : ∀ {u : Value}, (do eqGuard op t ox oy (a.eval ox) (a.eval oy); binOp op t (a.eval ox) (a.eval oy) : Sem Value).run P w = .ok u w → (execOp a.eval o).run P w = .ok (.value u) w := by
    intro u hu
    unfold execOp
    rw [ho]
    show (Sem.bind _ _).run P w = _
    have := congrArg (fun r : Result Value => r) hu
    simp only [Sem.run_bind'] at *
    rw [show (do eqGuard op t ox oy (a.eval ox) (a.eval oy); binOp op t (a.eval ox) (a.eval oy) : Sem Value).run P w = .ok u w from hu]
    rfl
  unfold binP at r4
  split at r4
  · rename_i i hi
    obtain ⟨info, ds, z, hty⟩ := tb_ok hE hi
    split at r4
    · rename_i e hk
      split at r4
      · rename_i _
        obtain ⟨c, g1, L5, L6, r5, r6, _⟩ := Runs.bind_inv r4
        split at r6
        · rename_i o0 n sz0 dp0 l0
          obtain ⟨e1, tp, hRp⟩ := look_rp h hA r5
          subst e1
          obtain ⟨AA, len, cap, hx, hn⟩ := rp_nil hRp
          have hu : P.underlying t = some (.slice e) := by have := hty.desc; rw [hk] at this; rw [← this]; exact hty.hu
          have hy : a.eval (.const (.slice none 0 0)) = .slice none 0 0 := rfl
          rw [hx, hy] at hex
          unfold nilP at r6
          split at r6
          · refine Yl.value (hex (u := .bool n) ?_) (put_idle h hdn (rv_b n) rfl r6)
            have := Lib.run_eql_slice_nil (P := P) w t e AA len cap 0 0 hu
            rw [hn] at this
            simp [eqGuard, this]
          · refine Yl.value (hex (u := .bool (!n)) ?_) (put_idle h hdn (rv_b (!n)) rfl r6)
            have h2 : (binOp .neq t (.slice AA len cap) (.slice none 0 0)).run P w = .ok (.bool (!n)) w := by
              have h3 := Lib.run_equalIn_slice_nil (P := P) w 9999 t e AA len cap 0 0 hu
              rw [hn] at h3
              simp only [binOp]
              simp [Op.equal, Op.maxDepth, h3]
            simp [eqGuard, h2]
          · exact (runs_fail r6).elim
        · exact (runs_fail r6).elim
      · exact (runs_fail r4).elim
    · rename_i hk
      have hu : P.underlying t = some .bool := by have := hty.desc; rw [hk] at this; rw [← this]; exact hty.hu
      split at r4
      · rename_i m n
        have hx : a.eval ox = .bool m := by generalize a.eval ox = v at hA; cases hA; rfl
        have hy : a.eval oy = .bool n := by generalize a.eval oy = v at hB; cases hB; rfl
        rw [hx, hy] at hex
        split at r4
        · refine Yl.value (hex (u := .bool (m == n)) ?_) (put_idle h hdn (rv_b _) rfl r4)
          have h2 : ∀ D : Nat, (Op.equalIn (D + 1) t (.bool m) (.bool n)).run P w = .ok (m == n) w := fun D => by simp [Op.equalIn, run_underlying hu]
          simp only [binOp, eqGuard]
          simp [Op.equal, Op.maxDepth, h2 9999]
        · refine Yl.value (hex (u := .bool (!(m == n))) ?_) (put_idle h hdn (rv_b _) rfl r4)
          have h2 : ∀ D : Nat, (Op.equalIn (D + 1) t (.bool m) (.bool n)).run P w = .ok (m == n) w := fun D => by simp [Op.equalIn, run_underlying hu]
          simp only [binOp, eqGuard]
          simp [Op.equal, Op.maxDepth, h2 9999]
        · exact (runs_fail r4).elim
      · exact (runs_fail r4).elim
    · split at r4
      · rename_i c V hb
        obtain ⟨hc, r5⟩ := runs_need r4
        obtain ⟨u, hu, hV, ho1⟩ := bin_snd (P := P) (t := t) (ox := ox) (oy := oy) hb hA hB hc
        exact Yl.value (hex hu) (put_idle h hdn hV ho1 (runs_pex r5))
      · exact (runs_fail r4).elim
  · exact (runs_fail r4).elim
end
end Go.Proofs.Ytjihjjbieeofdaa.T
namespace Go.Proofs.Ytjihjjbieeofdaa.T
set_option linter.unusedSimpArgs false
set_option linter.unusedVariables false
open Go Go.RowKit
set_option linter.unusedVariables false
set_option linter.unusedSimpArgs false
theorem u8s_ints {l : List AV} (h : U8s l) : ∃ ns : List Int, l = ns.map (AV.i .u8) := by
  induction l with
  | nil => exact ⟨[], rfl⟩
  | cons v l ih =>
    obtain ⟨n, rfl⟩ := h v List.mem_cons_self
    obtain ⟨ns, rfl⟩ := ih fun x hx => h x (List.mem_cons_of_mem _ hx)
    exact ⟨n :: ns, rfl⟩
theorem foldl_bytes : ∀ (ns : List Int) (s : ByteArray), (ns.map (AV.i .u8)).foldl (fun r v => match v with | .i _ n => r.push (UInt8.ofNat n.toNat) | _ => r) s = ns.foldl (fun r n => r.push (UInt8.ofNat n.toNat)) s
  | [], s => rfl
  | n :: ns, s => foldl_bytes ns _
theorem rp_bytes {P : Program} {w : World} {F : Nat → Prop} {o : Option Nat} {nl : Option Bool} {l : List AV} {x : Value} {ts : List Nat} (h : Rp w F (.sl o nl 1 false l) [x] ts) (hu : U8s l) : (Conv.bytesToString x).run P w = .ok (.string (bytesOf l)) w := by
  obtain ⟨ns, hl0⟩ := u8s_ints hu
  have hb : bytesOf l = ns.foldl (fun r n => r.push (UInt8.ofNat n.toNat)) ByteArray.empty := by rw [hl0]; exact foldl_bytes ns _
  rw [hb]
  have hlen : l.length = ns.length := by rw [hl0, List.length_map]
  have hnil : l = [] → ns = [] := fun e => List.length_eq_zero_iff.1 (by rw [← hlen, e]; rfl)
  have key : ∀ (a : Addr) (cap : Nat), (∀ j v, (ns.map (Value.int .u8))[j]? = some v → w.cell? (a.add j) = some v) → (Conv.bytesToString (.slice (some a) l.length cap)).run P w = .ok (.string (ns.foldl (fun r n => r.push (UInt8.ofNat n.toNat)) ByteArray.empty)) w := fun a cap hc => by
    have h1 := run_loadCells_list (P := P) w a (ns.map (Value.int .u8)) hc
    rw [List.length_map] at h1
    rw [hlen]
    exact run_bytesToString w a ns.length cap ns h1
  have hone : ∀ (n : Int) (cs : List Value) (ts : List Nat), Rp w F (.i .u8 n) cs ts → cs = [.int .u8 n] := fun n cs ts h => by cases h; rfl
  have hget : ∀ (j : Nat) (v : Value), (ns.map (Value.int .u8))[j]? = some v → ∃ n, v = .int .u8 n ∧ l[j]? = some (.i .u8 n) ∧ j < l.length := fun j v hj => by
    rw [List.getElem?_map] at hj
    cases hn : ns[j]? with
    | none => rw [hn] at hj; cases hj
    | some n =>
      rw [hn] at hj; cases hj
      refine ⟨n, rfl, by rw [hl0, List.getElem?_map, hn]; rfl, by rw [hlen]; exact (List.getElem?_eq_some_iff.1 hn).1⟩
  clear hb
  cases h with
  | @fz A _ _ _ _ cap b off cs hc hm hn h0 hA hl hr hd hw =>
    cases A with
    | none =>
      rw [hnil (h0 rfl).1, (h0 rfl).1]
      rfl
    | some a =>
      refine key a cap fun j v hj => ?_
      obtain ⟨n, rfl, hg, hlt⟩ := hget j v hj
      have hA2 := hA (fun e => by rw [e] at hlt; exact absurd hlt (Nat.not_lt_zero _))
      cases hA2.1
      have hcs := hone n _ _ (hr j _ hg)
      have := hw j 0 (.int .u8 n) hlt (by rw [hcs]; rfl)
      rw [Nat.mul_one, Nat.add_zero] at this
      rw [Addr.add_lit]; exact this
  | own0 hn => rw [hnil rfl]; rfl
  | @own1 a0 _ _ _ _ hn =>
    refine key a0 0 fun j v hj => ?_
    rw [hnil rfl] at hj
    cases hj
  | @own b cap arr ty nl sz st dp l cs ts hn hh hc hm hs hl hr hw hd =>
    refine key ⟨b, 0, none⟩ cap fun j v hj => ?_
    obtain ⟨n, rfl, hg, hlt⟩ := hget j v hj
    have hcs := hone n _ _ (hr j _ hg)
    have := hw j 0 (.int .u8 n) hlt (by rw [hcs]; rfl)
    rw [Nat.mul_one, Nat.add_zero] at this
    rw [Addr.add_lit, cell_of_block hh, Nat.zero_add]; exact this
section
variable {P : Program} {W0 : Bs} {N : Nat} {G G' : Gh} {g g' : Nat → AV} {a a' : Act} {w w' : World} {X X' : List Nat} {L : Lg} {k d : Nat} {E : Env} {o : Oper} {Imp : Nat → List AV → AV → Prop}
theorem ex_of {S : Sem Value} {u : Value} (h : execOp a.eval o = (do pure (.value (← S)))) (hS : S.run P w = .ok u w') : (execOp a.eval o).run P w = .ok (.value u) w' := by
  rw [h]
  show (Sem.bind _ _).run P w = _
  rw [Sem.run_bind', hS]; rfl
theorem moveP_snd (h : Rel W0 N G g a w []) (hn : NoSt (k + 1) g) {x : Operand} (ho : o.op = .move x) (hd : o.dst = some d) (hdn : d < N) (hx : opOk N x) (hr : Runs Imp (moveP E k d x) g () g' L) : Yl P o a w (Fin W0 N g' a o.dst) := by
  rw [hd]
  have hex : (execOp a.eval o).run P w = .ok (.value (a.eval x)) w := by unfold execOp; rw [ho]; rfl
  refine Yl.value hex ?_
  cases x with
  | tmp t =>
    obtain ⟨_, r1⟩ := runs_rd hr
    have ht := hx t rfl
    have hsl := h.sl t ht
    cases hg : g t with
    | sl o nl sz dp l =>
      rw [hg] at r1 hsl
      cases o with
      | none => exact put_idle h hdn (by have := rv_noTok hsl rfl (fun l h => by cases h) (fun l h => by cases h); rw [this] at hsl; exact hsl) rfl r1
      | some s =>
        dsimp only at r1
        split at r1
        · obtain ⟨_, r2⟩ := runs_upd r1
          have hRp : Rp w G.F (.sl (some s) nl sz dp l) [a.tmps.getD t undef] (G.tk t) := hsl
          obtain ⟨G', k1, k2, k3, k4, k5⟩ := h.fzS ht (v' := (AV.sl (some s) nl sz dp l).fz) (RV.of (hRp.toFz (fun b hb => .inl hb) (fun b hb => .inr hb)) (fz_flat rfl)) (fz_own1 _)
          exact put_idle k1 hdn (RV.of (hRp.toFz k2 k3) (fz_flat rfl)) (fz_own1 _) r2
        · have hv : RV G g a w (.pv t [] [s]) (a.eval (.tmp t)) [] := by
            refine ⟨rfl, ?_, fun s' nl' sz' dp' l' rb' hp => ?_⟩
            · obtain ⟨A, cap, e, _⟩ := rp_len (show Rp w G.F (.sl (some s) nl sz dp l) [a.tmps.getD t undef] (G.tk t) from hsl)
              show (a.tmps.getD t undef).oneCell' = true
              rw [e]; rfl
            · unfold pval
              rw [base_slot (Nat.lt_of_lt_of_le ht h.hN), Option.bind_some]; rfl
          exact put_idle h hdn hv rfl r1
    | agg l =>
      rw [hg] at r1 hsl
      dsimp only at r1
      split at r1
      · obtain ⟨v, g1, L1, L2, r2, r3, _⟩ := Runs.bind_inv r1
        rw [← hg] at r2
        obtain ⟨G', ts', k1, k2, k3, k4⟩ := tkv_snd h ht r2
        exact put_fin k1 hdn k2 ⟨[], rfl⟩ (no_stp k4 (k3.less.noSt hn)) r3
      · rename_i hno
        have : G.tk t = [] := by
          obtain ⟨arr, e, hs, tf, htf, h1⟩ := hsl
          rw [htf]
          refine List.flatMap_eq_nil_iff.2 (fun j hj => ?_)
          have hj := List.mem_range.1 hj
          have h2 := h1 j l[j] _ (List.getElem?_eq_getElem hj) (Array.getElem?_eq_getElem (by omega))
          have h3 : l[j].own1 = false := by
            have := List.any_eq_false.1 (by simpa using hno : l.any AV.own1 = false) l[j] (List.getElem_mem hj)
            simpa using this
          revert h2 h3
          generalize l[j] = v
          intro h2 h3
          cases v with
          | pv => exact h2.1
          | agg l' => exact h2.elim
          | _ => exact Rp.noTok h2 h3 (fun l' e => by cases e)
        rw [this] at hsl
        exact put_idle h hdn hsl rfl r1
    | tup l =>
      rw [hg] at r1
      obtain ⟨v, g1, L1, L2, r2, r3, _⟩ := Runs.bind_inv r1
      rw [← hg] at r2
      obtain ⟨G', ts', k1, k2, k3, k4⟩ := tkv_snd h ht r2
      exact put_fin k1 hdn k2 ⟨[], rfl⟩ (no_stp k4 (k3.less.noSt hn)) r3
    | _ =>
      rw [hg] at r1 hsl
      exact put_idle h hdn (by have := rv_noTok hsl rfl (fun l h => by cases h) (fun l h => by cases h); rw [this] at hsl; exact hsl) rfl r1
  | const c =>
    obtain ⟨G', ts', k1, k2, k3, k4⟩ := take_snd (k := k) (fd := false) (fp := false) (Imp := Imp) h hx (.ret _ _)
    exact put_fin k1 hdn k2 ⟨[], rfl⟩ (no_stp k4 (k3.less.noSt hn)) hr
  | global _ => exact (runs_fail hr).elim
  | func _ => exact (runs_fail hr).elim
theorem assign_snd (h : Rel W0 N G g a w []) (hn : NoSt (k + 1) g) {x : Operand} (ho : o.op = .assign x) (hd : o.dst = some d) (hdn : d < N) (hx : opOk N x) {fd fp : Bool} (hr : Runs Imp ((take k fd fp x).bind fun v => put d v) g () g' L) : Yl P o a w (Fin W0 N g' a o.dst) := by
  rw [hd]
  have hex : (execOp a.eval o).run P w = .ok (.value (a.eval x)) w := by unfold execOp; rw [ho]; rfl
  refine Yl.value hex ?_
  obtain ⟨v, g1, L1, L2, r1, r2, _⟩ := Runs.bind_inv hr
  obtain ⟨G', ts', k1, k2, k3, k4⟩ := take_snd h hx r1
  exact put_fin k1 hdn k2 ⟨[], rfl⟩ (no_stp k4 (k3.less.noSt hn)) r2
theorem pick_snd (h : Rel W0 N G g a w []) {x y z : Operand} (ho : o.op = .pick x y z) (hd : o.dst = some d) (hdn : d < N) (hx : opOk N x) (hy : opOk N y) (hz : opOk N z) (hr : Runs Imp ((rdo x).bind fun c => (rdo y).bind fun A => (rdo z).bind fun B => pickP d c A B) g () g' L) : Yl P o a w (Fin W0 N g' a o.dst) := by
  rw [hd]
  obtain ⟨C, g1, L1, L2, r1, r2, _⟩ := Runs.bind_inv hr
  obtain ⟨e1, ts, hC, _⟩ := rdo_snd h hx r1
  subst e1
  obtain ⟨A, g1, L3, L4, r3, r4, _⟩ := Runs.bind_inv r2
  obtain ⟨e1, ts1, hA, _⟩ := rdo_snd h hy r3
  subst e1
  obtain ⟨B, g1, L5, L6, r5, r6, _⟩ := Runs.bind_inv r4
  obtain ⟨e1, ts2, hB, _⟩ := rdo_snd h hz r5
  subst e1
  unfold pickP at r6
  split at r6
  · rename_i q
    have hc : a.eval x = .bool q := by generalize a.eval x = v at hC; cases hC; rfl
    have hex : (execOp a.eval o).run P w = .ok (.value (if q = true then a.eval y else a.eval z)) w := by unfold execOp; rw [ho]; simp [asBool, hc]
    refine Yl.value hex ?_
    obtain ⟨uu, euu, r7⟩ := runs_ex r6
    clear r6
    subst euu
    cases q with
    | true =>
      rw [if_pos rfl]
      dsimp only at r7
      split at r7
      · rename_i u
        have : a.eval y = .bool u := by generalize a.eval y = v at hA; cases hA; rfl
        rw [this]
        exact put_idle h hdn (rv_b u) rfl r7
      · exact (runs_fail r7).elim
    | false =>
      rw [if_neg (by decide)]
      dsimp only at r7
      split at r7
      · rename_i u
        have : a.eval z = .bool u := by generalize a.eval z = v at hB; cases hB; rfl
        rw [this]
        exact put_idle h hdn (rv_b u) rfl r7
      · exact (runs_fail r7).elim
  · exact (runs_fail r6).elim
theorem unOp_snd (h : Rel W0 N G g a w []) {op : UnOp} {t : TypeId} {x : Operand} (ho : o.op = .unOp op t x) (hd : o.dst = some d) (hdn : d < N) (hx : opOk N x) (hr : Runs Imp ((rdo x).bind fun A => match un op A with | some v => pex d v | none => .fail) g () g' L) : Yl P o a w (Fin W0 N g' a o.dst) := by
  rw [hd]
  obtain ⟨A, g1, L1, L2, r1, r2, _⟩ := Runs.bind_inv hr
  obtain ⟨e1, ts, hA, _⟩ := rdo_snd h hx r1
  subst e1
  split at r2
  · rename_i V hV
    obtain ⟨u, hu, hRV, ho1⟩ := un_snd (P := P) hV hA
    exact Yl.value (ex_of (S := Op.unary op (a.eval x)) (by unfold execOp; rw [ho]) hu) (put_idle h hdn hRV ho1 (runs_pex r2))
  · exact (runs_fail r2).elim
theorem conv_snd (hE : E.tb.okB P = true) (h : Rel W0 N G g a w []) {s t : TypeId} {x : Operand} (ho : o.op = .convert s t x) (hd : o.dst = some d) (hdn : d < N) (hx : opOk N x) {i j : TI} (hi : E.tb.get s = some i) (hj : E.tb.get t = some j) (hr : Runs Imp ((rdo x).bind fun A => convP E d i j A) g () g' L) : Yl P o a w (Fin W0 N g' a o.dst) := by
  rw [hd]
  obtain ⟨A, g1, L1, L2, r1, r2, _⟩ := Runs.bind_inv hr
  obtain ⟨e1, ts, hA, _⟩ := rdo_snd h hx r1
  subst e1
  obtain ⟨_, ds, _, hs⟩ := tb_ok hE hi
  obtain ⟨_, dt, _, ht⟩ := tb_ok hE hj
  have d1 := hs.desc
  have d2 := ht.desc
  unfold convP at r2
  split at r2
  · rename_i e e2 e3
    rw [e2] at d1
    rw [e3] at d2
    subst d1; subst d2
    unfold convS at r2
    obtain ⟨v, g1, L3, L4, r3, r4, _⟩ := Runs.bind_inv r2
    split at r4
    · rename_i o1 nl l
      split at r4
      · rename_i hu8
        obtain ⟨hu, r5⟩ := runs_need r4
        obtain ⟨e1, tp, hRp⟩ := look_rp h hA r3
        subst e1
        have he : P.underlying e = some (.int .u8) := by
          unfold isU8 at hu8
          split at hu8
          · rename_i u hu
            obtain ⟨_, de, _, hde⟩ := tb_ok hE hu
            have d3 := hde.desc
            split at hu8
            · rename_i hk
              rw [hk] at d3
              subst d3
              exact hde.hu
            · cases hu8
          · cases hu8
        obtain ⟨AA, cap, e4, _⟩ := rp_len hRp
        refine Yl.value (ex_of (S := convert s t (a.eval x)) (u := .string (bytesOf l)) (by unfold execOp; rw [ho]) ?_) (put_idle h hdn (rv_s _) rfl (runs_pex r5))
        have hb := rp_bytes (P := P) hRp hu
        rw [e4] at hb ⊢
        rw [run_convert_bytes_string w s t e AA _ _ hs.hu he ht.hu]
        exact hb
      · exact (runs_fail r4).elim
    · exact (runs_fail r4).elim
  · split at r2
    · rename_i k1 n k2 k3 e2 e3
      rw [e2] at d1
      rw [e3] at d2
      subst d1; subst d2
      have hc : a.eval x = .int k1 n := by generalize a.eval x = v at hA; cases hA; rfl
      refine Yl.value (ex_of (S := convert s t (a.eval x)) (u := .int k3 (k3.wrap n)) (by unfold execOp; rw [ho]) ?_) (put_idle h hdn (rv_i _ _) rfl (runs_pex r2))
      rw [hc]
      simp [convert, run_underlying hs.hu, run_underlying ht.hu, Conv.intToInt]
    · rename_i y e2 e3
      rw [e2] at d1
      rw [e3] at d2
      subst d1; subst d2
      have hc : a.eval x = .string y := by generalize a.eval x = v at hA; cases hA; rfl
      refine Yl.value (ex_of (S := convert s t (a.eval x)) (u := .string y) (by unfold execOp; rw [ho]) ?_) (put_idle h hdn (rv_s _) rfl r2)
      rw [hc]
      simp [convert, run_underlying hs.hu, run_underlying ht.hu]
    · exact (runs_fail r2).elim
theorem nilCheck_snd (h : Rel W0 N G g a w []) {x : Operand} (ho : o.op = .nilCheck x) (hd : o.dst = some d) (hdn : d < N) (hx : opOk N x) (hr : Runs Imp ((rdo x).bind fun v => match v with
    | .ptr n u => put d (.ptr n u)
    | .fa cs => put d (.fa cs)
    | _ => .fail) g () g' L) : Yl P o a w (Fin W0 N g' a o.dst) := by
  rw [hd]
  obtain ⟨A, g1, L1, L2, r1, r2, _⟩ := Runs.bind_inv hr
  obtain ⟨e1, ts, hA, _⟩ := rdo_snd h hx r1
  subst e1
  have hex : ∀ b off, a.eval x = .pointer (some ⟨b, off, none⟩) → (execOp a.eval o).run P w = .ok (.value (a.eval x)) w := by
    intro b off hx1
    unfold execOp
    rw [ho]
    simp [hx1]
  cases A with
  | ptr n u =>
    obtain ⟨e1, b, z, hb, hx1⟩ := hA
    subst e1
    exact Yl.value (hex b u hx1) (put_idle h hdn (v := .ptr n u) ⟨rfl, b, z, hb, hx1⟩ rfl r2)
  | fa cs =>
    have hA1 : Rp w G.F (.fa cs) [a.eval x] ts := hA
    have e1 := hA1.noTok rfl (fun l h => by cases h)
    subst e1
    have : ∃ b off, a.eval x = .pointer (some ⟨b, off, none⟩) := by generalize a.eval x = v at hA1; cases hA1; exact ⟨_, _, rfl⟩
    obtain ⟨b, off, hx1⟩ := this
    exact Yl.value (hex b off hx1) (put_idle h hdn (v := .fa cs) hA rfl r2)
  | _ => exact (runs_fail r2).elim
theorem len_snd (hE : E.tb.okB P = true) (h : Rel W0 N G g a w []) {c : Call} {x : Operand} (ho : o.op = .call c) (hc : c.callee = .builtin .len) (hxs : c.args.toList = [x]) (hd : o.dst = some d) (hdn : d < N) (hx : opOk N x) {t : TypeId} (ht : c.argTypes.toList = [t]) (hr : Runs Imp ((rdo x).bind fun v => lenP d (E.tb.get t) v) g () g' L) : Yl P o a w (Fin W0 N g' a o.dst) := by
  rw [hd]
  obtain ⟨A, g1, L1, L2, r1, r2, _⟩ := Runs.bind_inv hr
  obtain ⟨e1, ts, hA, _⟩ := rdo_snd h hx r1
  subst e1
  unfold lenP at r2
  split at r2
  · rename_i i hi
    obtain ⟨_, ds, _, hs⟩ := tb_ok hE hi
    have d1 := hs.desc
    obtain ⟨v, g1, L3, L4, r3, r4, _⟩ := Runs.bind_inv r2
    have hargs : c.args = #[x] := by rw [← Array.toList_inj]; exact hxs
    have hts : c.argTypes = #[t] := by rw [← Array.toList_inj]; exact ht
    have hcall : ∀ u, (Builtin.len_ #[t] o.type #[a.eval x]).run P w = .ok u w → (execOp a.eval o).run P w = .ok (.value u) w := by
      intro u hu
      unfold execOp
      rw [ho]
      simp [resolve, hc, hargs, hts, invoke, builtin, hu]
    split at r4
    · rename_i e o1 nl sz dp l hk
      rw [hk] at d1
      subst d1
      obtain ⟨e1, tp, hRp⟩ := look_rp h hA r3
      subst e1
      obtain ⟨AA, cap, e2, _⟩ := rp_len hRp
      refine Yl.value (hcall (.int .i64 l.length) ?_) (put_idle h hdn (rv_i _ _) rfl (runs_pex r4))
      rw [e2]
      simp [Builtin.len_, run_underlying hs.hu, goInt]
    · rename_i y hk
      rw [hk] at d1
      subst d1
      obtain ⟨e1, hc1⟩ := look_snd h hA r3
      subst e1
      rcases hc1 with ⟨e2, _⟩ | ⟨_, _, _, _, _, hp, _⟩
      · subst e2
        have hy : a.eval x = .string y := by generalize a.eval x = v at hA; cases hA; rfl
        refine Yl.value (hcall (.int .i64 y.size) ?_) (put_idle h hdn (rv_i _ _) rfl (runs_pex r4))
        rw [hy]
        simp [Builtin.len_, run_underlying hs.hu, goInt]
      · obtain ⟨_, _, _, _, _, e3⟩ := hp.own
        cases e3
    · rename_i e l hk
      rw [hk] at d1
      subst d1
      obtain ⟨e1, hc1⟩ := look_snd h hA r3
      subst e1
      rcases hc1 with ⟨e2, _⟩ | ⟨_, _, _, _, _, hp, _⟩
      · subst e2
        obtain ⟨_, b0, cap, hy, _⟩ := hA
        refine Yl.value (hcall (.int .i64 l.length) ?_) (put_idle h hdn (rv_i _ _) rfl (runs_pex r4))
        rw [hy]
        simp [Builtin.len_, run_underlying hs.hu, goInt]
      · obtain ⟨_, _, _, _, _, e3⟩ := hp.own
        cases e3
    · exact (runs_fail r4).elim
  · exact (runs_fail r2).elim
theorem max_snd (h : Rel W0 N G g a w []) {c : Call} {x y : Operand} (ho : o.op = .call c) (hc : c.callee = .builtin .max) (hxs : c.args.toList = [x, y]) (hd : o.dst = some d) (hdn : d < N) (hx : opOk N x) (hy : opOk N y) (hr : Runs Imp ((rdo x).bind fun A => (rdo y).bind fun B => maxP d A B) g () g' L) : Yl P o a w (Fin W0 N g' a o.dst) := by
  rw [hd]
  obtain ⟨A, g1, L1, L2, r1, r2, _⟩ := Runs.bind_inv hr
  obtain ⟨e1, ts, hA, _⟩ := rdo_snd h hx r1
  subst e1
  obtain ⟨B, g1, L3, L4, r3, r4, _⟩ := Runs.bind_inv r2
  obtain ⟨e1, ts', hB, _⟩ := rdo_snd h hy r3
  subst e1
  have hargs : c.args = #[x, y] := by rw [← Array.toList_inj]; exact hxs
  unfold maxP at r4
  split at r4
  · rename_i k1 m k2 n
    split at r4
    · have h1 : a.eval x = .int k1 m := by generalize a.eval x = v at hA; cases hA; rfl
      have h2 : a.eval y = .int k2 n := by generalize a.eval y = v at hB; cases hB; rfl
      refine Yl.value (x := .int k1 (if n > m then n else m)) ?_ (put_idle h hdn (rv_i _ _) rfl (runs_pex r4))
      unfold execOp
      rw [ho]
      simp [resolve, hc, hargs, invoke, builtin, Builtin.max_, Builtin.max2, h1, h2]
    · exact (runs_fail r4).elim
  · exact (runs_fail r4).elim
theorem min_snd (h : Rel W0 N G g a w []) {c : Call} {x y : Operand} (ho : o.op = .call c) (hc : c.callee = .builtin .min) (hxs : c.args.toList = [x, y]) (hd : o.dst = some d) (hdn : d < N) (hx : opOk N x) (hy : opOk N y) (hr : Runs Imp ((rdo x).bind fun A => (rdo y).bind fun B => minP d A B) g () g' L) : Yl P o a w (Fin W0 N g' a o.dst) := by
  rw [hd]
  obtain ⟨A, g1, L1, L2, r1, r2, _⟩ := Runs.bind_inv hr
  obtain ⟨e1, ts, hA, _⟩ := rdo_snd h hx r1
  subst e1
  obtain ⟨B, g1, L3, L4, r3, r4, _⟩ := Runs.bind_inv r2
  obtain ⟨e1, ts', hB, _⟩ := rdo_snd h hy r3
  subst e1
  have hargs : c.args = #[x, y] := by rw [← Array.toList_inj]; exact hxs
  unfold minP at r4
  split at r4
  · rename_i k1 m k2 n
    split at r4
    · have h1 : a.eval x = .int k1 m := by generalize a.eval x = v at hA; cases hA; rfl
      have h2 : a.eval y = .int k2 n := by generalize a.eval y = v at hB; cases hB; rfl
      refine Yl.value (x := .int k1 (if n < m then n else m)) ?_ (put_idle h hdn (rv_i _ _) rfl (runs_pex r4))
      unfold execOp
      rw [ho]
      simp [resolve, hc, hargs, invoke, builtin, Builtin.min_, Builtin.min2, h1, h2]
    · exact (runs_fail r4).elim
  · exact (runs_fail r4).elim
end
end Go.Proofs.Ytjihjjbieeofdaa.T
namespace Go.Proofs.Ytjihjjbieeofdaa.T
set_option linter.unusedSimpArgs false
set_option linter.unusedVariables false
open Go Go.RowKit
set_option linter.unusedVariables false
set_option linter.unusedSimpArgs false
section
variable {P : Program} {W0 : Bs} {N : Nat} {G G' : Gh} {g g' : Nat → AV} {a a' : Act} {w w' : World} {X X' : List Nat} {L : Lg} {k d : Nat} {E : Env} {o : Oper} {Imp : Nat → List AV → AV → Prop}
theorem field_of (hE : E.tb.okB P = true) {t f off ft : Nat} (h : fieldOf E t f = some (off, ft)) : ∃ fields fl, P.underlying t = some (.struct fields) ∧ fields[f]? = some fl ∧ fl.offset = off ∧ fl.type = ft := by
  unfold fieldOf at h
  split at h
  · rename_i i hi
    split at h
    · rename_i fs hk
      obtain ⟨_, ds, _, hs⟩ := tb_ok hE hi
      have d1 := hs.desc
      rw [hk] at d1
      obtain ⟨fields, rfl, hm⟩ := d1
      rw [← hm, List.getElem?_map, Array.getElem?_toList] at h
      cases hf : fields[f]? with
      | none => rw [hf] at h; cases h
      | some fl =>
        rw [hf] at h
        simp only [Option.map_some, Option.some.injEq, Prod.mk.injEq] at h
        exact ⟨fields, fl, hs.hu, hf, h.1, h.2⟩
    · cases h
  · cases h
theorem elem_of (hE : E.tb.okB P = true) {t : Nat} {i : TI} (h : elemOf E t = some i) : ∃ e info ds z, P.underlying t = some (.slice e) ∧ TyOk P e i info ds z := by
  unfold elemOf at h
  split at h
  · rename_i j hj
    split at h
    · rename_i e hk
      obtain ⟨_, ds, _, hs⟩ := tb_ok hE hj
      have d1 := hs.desc
      rw [hk] at d1
      subst d1
      obtain ⟨info, ds, z, h2⟩ := tb_ok hE h
      exact ⟨e, info, ds, z, hs.hu, h2⟩
    · cases h
  · cases h
theorem fieldAt_run {t f off ft : Nat} {fields : Array Field} {fl : Field} {i : TI} {info : TypeInfo} {ds : TypeDesc} {z : Value} (hu : P.underlying t = some (.struct fields)) (hf : fields[f]? = some fl) (ho : fl.offset = off) (hft : fl.type = ft) (hty : TyOk P ft i info ds z) (b u : Nat) (w : World) : (Instr.fieldAt t (.pointer (some ⟨b, u, none⟩)) f).run P w = .ok (.pointer (some ⟨b, u + off, none⟩)) w := by
  have h0 : i.size ≠ 0 := Nat.pos_iff_ne_zero.1 hty.pos
  subst hft; subst ho
  simp [Instr.fieldAt, run_underlying hu, hf, Instr.sureAddr, fieldPlace, hty.sizeOf, h0, Addr.add_lit]
theorem fieldAddr_snd (hE : E.tb.okB P = true) (h : Rel W0 N G g a w []) {t f off ft : Nat} {x : Operand} (ho : o.op = .fieldAddr t x f) (hd : o.dst = some d) (hdn : d < N) (hx : opOk N x) (hf : fieldOf E t f = some (off, ft)) {i : TI} (hi : E.tb.get ft = some i) (hr : Runs Imp ((rdo x).bind fun v => fieldAddrP d off v) g () g' L) : Yl P o a w (Fin W0 N g' a o.dst) := by
  rw [hd]
  obtain ⟨A, g1, L1, L2, r1, r2, _⟩ := Runs.bind_inv hr
  obtain ⟨e1, ts, hA, _⟩ := rdo_snd h hx r1
  subst e1
  obtain ⟨fields, fl, hu, hfl, e2, e3⟩ := field_of hE hf
  obtain ⟨_, _, _, hty⟩ := tb_ok hE hi
  have hex : ∀ b u, a.eval x = .pointer (some ⟨b, u, none⟩) → (execOp a.eval o).run P w = .ok (.value (.pointer (some ⟨b, u + off, none⟩))) w := by
    intro b u hx1
    refine ex_of (S := Instr.fieldAt t (a.eval x) f) (by unfold execOp; rw [ho]) ?_
    rw [hx1]
    exact fieldAt_run hu hfl e2 e3 hty b u w
  unfold fieldAddrP at r2
  split at r2
  · rename_i n u
    obtain ⟨e4, b, z, hb, hx1⟩ := hA
    exact Yl.value (hex b u hx1) (put_idle h hdn (v := .ptr n (u + off)) ⟨rfl, b, z, hb, rfl⟩ rfl r2)
  · rename_i r ix ss j u
    obtain ⟨p, g1, L3, L4, r3, r4, _⟩ := Runs.bind_inv r2
    obtain ⟨e4, hp⟩ := rslP_snd r3
    subst e4
    split at r4
    · rename_i o1 nl sz dp l hp1
      obtain ⟨hj, r5⟩ := runs_need r4
      obtain ⟨s0, nl0, sz0, dp0, l0, e5⟩ := hp.own
      rw [e5] at hp1
      cases hp1
      rw [e5] at hp
      obtain ⟨b, len, cap, h1, hx1⟩ := hA.2 s0 nl sz dp l _ hp hj
      refine Yl.value (hex b _ hx1) (put_idle h hdn (v := .ea r ix ss j (u + off)) ⟨rfl, fun s nl' sz' dp' l' rb hp2 hj2 => ?_⟩ rfl r5)
      obtain ⟨b2, len2, cap2, h3, hx3⟩ := hA.2 s nl' sz' dp' l' rb hp2 hj2
      refine ⟨b2, len2, cap2, h3, ?_⟩
      rw [hx1] at hx3
      simp only [Value.pointer.injEq, Option.some.injEq, Addr.mk.injEq] at hx3 ⊢
      exact ⟨hx3.1, by omega, trivial⟩
    · exact (runs_fail r4).elim
  · rename_i cs
    have hA1 : Rp w G.F (.fa cs) [a.eval x] ts := hA
    generalize hv : a.eval x = v at hA1 hex
    cases hA1 with
    | @fa _ b u us hF hg hr hw =>
      refine Yl.value (hex b u rfl) (put_idle h hdn (v := .fa (cs.drop off)) (x := .pointer (some ⟨b, u + off, none⟩)) ?_ rfl r2)
      refine Rp.fa (us := fun q => us (off + q)) hF (fun q e he => by rw [List.getElem?_drop] at he; exact hg _ e he) (fun q e he => ?_) (fun q hq => ?_)
      · rw [List.getElem?_drop] at he
        exact hr _ e he
      · rw [List.length_drop] at hq
        rw [show u + off + q = u + (off + q) by omega]
        exact hw (off + q) (by omega)
  · exact (runs_fail r2).elim
theorem part_run {ft : Nat} {i : TI} {info : TypeInfo} {ds : TypeDesc} {z : Value} (hty : TyOk P ft i info ds z) (arr : Array Value) (off : Nat) (w : World) : (i.isAgg = true → (part ft arr off).run P w = .ok (.agg (arr.extract off (off + i.size))) w) ∧ (i.isAgg = false → ∀ y, arr[off]? = some y → (part ft arr off).run P w = .ok y w) := by
  constructor
  · intro hi
    simp [part, hty.isAgg, hi, hty.sizeOf]
  · intro hi y hy
    simp [part, hty.isAgg, hi, hy]
theorem rc_rv {e : AV} {y : Value} {ts : List Nat} (h : RC G g a w e y ts) : RV G g a w e y ts := by
  cases e with
  | any => cases h; exact rfl
  | agg l => exact h.elim
  | pv => exact h
  | tup | ptr | ea | psl | pfa => cases h
  | _ => exact h
theorem rc_tok {e : AV} {y : Value} {ts : List Nat} (h : RC G g a w e y ts) (ho : e.own1 = false) : ts = [] := by
  cases e with
  | pv => exact h.1
  | agg l => exact h.elim
  | _ => exact Rp.noTok h ho (fun l e => by cases e)
theorem flat_nil {n : Nat} : (List.range n).flatMap (fun _ => ([] : List Nat)) = [] := List.flatMap_eq_nil_iff.2 (fun _ _ => rfl)
theorem field_snd (hE : E.tb.okB P = true) (h : Rel W0 N G g a w []) {t f off ft : Nat} {x : Operand} (ho : o.op = .field t x f) (hd : o.dst = some d) (hdn : d < N) (hx : opOk N x) (hf : fieldOf E t f = some (off, ft)) {i : TI} (hi : E.tb.get ft = some i) (hr : Runs Imp ((rdo x).bind fun v => fieldP d off i v) g () g' L) : Yl P o a w (Fin W0 N g' a o.dst) := by
  rw [hd]
  obtain ⟨A, g1, L1, L2, r1, r2, _⟩ := Runs.bind_inv hr
  obtain ⟨e1, ts, hA, _⟩ := rdo_snd h hx r1
  subst e1
  obtain ⟨fields, fl, hu, hfl, e2, e3⟩ := field_of hE hf
  obtain ⟨_, _, _, hty⟩ := tb_ok hE hi
  unfold fieldP at r2
  split at r2
  · rename_i cs
    obtain ⟨arr, hx1, hsz, tf, htf, hc⟩ := hA
    have hex : ∀ u, (part ft arr off).run P w = .ok u w → (execOp a.eval o).run P w = .ok (.value u) w := by
      intro u hpu
      refine ex_of (S := Instr.field t (a.eval x) f) (by unfold execOp; rw [ho]) ?_
      rw [hx1]
      subst e2; subst e3
      simp [Instr.field, run_underlying hu, hfl, asAgg, hpu]
    split at r2
    · exact (runs_fail r2).elim
    · rename_i hno
      have own0 : ∀ (j : Nat) (e : AV), cs[j]? = some e → e.own1 = false := fun j e he => by
        have := List.any_eq_false.1 (by simpa using hno : cs.any AV.own1 = false) e (List.mem_of_getElem? he)
        simpa using this
      split at r2
      · rename_i hag
        obtain ⟨hle, r3⟩ := runs_need r2
        refine Yl.value (hex _ ((part_run hty arr off w).1 hag)) (put_idle h hdn (v := .agg ((cs.drop off).take i.size)) ⟨_, rfl, by simp; omega, fun _ => [], flat_nil.symm, fun j e y he hy => ?_⟩ rfl r3)
        have hj := lt_of_get he
        rw [List.length_take] at hj
        rw [List.getElem?_take_of_lt (by omega), List.getElem?_drop] at he
        have hy' : arr[off + j]? = some y := by
          rw [Array.getElem?_extract] at hy
          split at hy
          · exact hy
          · cases hy
        have h1 := hc _ e y he hy'
        have h2 := rc_tok h1 (own0 _ e he)
        rw [h2] at h1
        exact h1
      · rename_i hag
        split at r2
        · rename_i c cs' hd1
          have hc0 : cs[off]? = some c := by
            have := List.getElem?_drop (xs := cs) (i := off) (j := 0)
            rw [hd1] at this
            simpa using this.symm
          have hlt := lt_of_get hc0
          have hy : arr[off]? = some (arr[off]'(by omega)) := Array.getElem?_eq_getElem (by omega)
          have h1 := hc off c _ hc0 hy
          have h2 := rc_tok h1 (own0 _ c hc0)
          rw [h2] at h1
          exact Yl.value (hex _ ((part_run hty arr off w).2 (by simpa using hag) _ hy)) (put_idle h hdn (rc_rv h1) (own0 _ c hc0) r2)
        · exact (runs_fail r2).elim
  · exact (runs_fail r2).elim
theorem fa_of {F : Nat → Prop} {e : AV} {cs : List Value} (h : Rp w F e cs []) {b off : Nat} (hF : F b) (hw : ∀ q u, cs[q]? = some u → w.cell? ⟨b, off + q, none⟩ = some u) : Rp w F (.fa e.cellsL) [.pointer (some ⟨b, off, none⟩)] [] := by
  obtain ⟨tf, htf, hr⟩ := h.cells
  have hl := h.len
  refine .fa (us := fun q => cs.getD q undef) hF h.cellsNagg (fun q x hx => ?_) (fun q hq => ?_)
  · have hlt := lt_of_get hx
    have hu : cs[q]? = some (cs[q]'(by omega)) := List.getElem?_eq_getElem (by omega)
    have h1 := hr q x _ hx hu
    have h2 : tf q = [] := by
      have := List.flatMap_eq_nil_iff.1 htf.symm q (List.mem_range.2 hlt)
      exact this
    rw [h2] at h1
    rw [List.getD_eq_getElem?_getD, hu]
    exact h1
  · rw [List.getD_eq_getElem?_getD, List.getElem?_eq_getElem (by omega : q < cs.length)]
    exact hw q _ (List.getElem?_eq_getElem (by omega))
theorem indexAt_run {t e : Nat} {i : TI} {info : TypeInfo} {ds : TypeDesc} {z : Value} (hu : P.underlying t = some (.slice e)) (hty : TyOk P e i info ds z) {k1 : IntKind} {n : Int} {b off len cap : Nat} (h0 : 0 ≤ n) (h1 : n < len) (w : World) : (Instr.indexAt t (.slice (some ⟨b, off, none⟩) len cap) (.int k1 n)).run P w = .ok (.pointer (some ⟨b, off + n.toNat * i.size, none⟩)) w := by
  simp [Instr.indexAt, asIntOf, run_underlying hu, h0, h1, hty.sizeOf, Addr.add_lit]
theorem indexAddr_snd (hE : E.tb.okB P = true) (h : Rel W0 N G g a w []) {t : Nat} {x ix : Operand} (ho : o.op = .indexAddr t x ix) (hd : o.dst = some d) (hdn : d < N) (hx : opOk N x) (hix : opOk N ix) {i : TI} (hi : elemOf E t = some i) (hr : Runs Imp ((rdo ix).bind fun n => match n with
      | .i _ n => (rdo x).bind fun v => indexAddrP d i.size x n v
      | _ => .fail) g () g' L) : Yl P o a w (Fin W0 N g' a o.dst) := by
  rw [hd]
  obtain ⟨A, g1, L1, L2, r1, r2, _⟩ := Runs.bind_inv hr
  obtain ⟨e1, ts, hA, _⟩ := rdo_snd h hix r1
  subst e1
  obtain ⟨e, info, ds, z, hu, hty⟩ := elem_of hE hi
  split at r2
  · rename_i k1 n
    have hn : a.eval ix = .int k1 n := by generalize a.eval ix = v at hA; cases hA; rfl
    obtain ⟨B, g1, L3, L4, r3, r4, _⟩ := Runs.bind_inv r2
    obtain ⟨e1, ts', hB, _⟩ := rdo_snd h hx r3
    subst e1
    have hex : ∀ b off len cap, a.eval x = .slice (some ⟨b, off, none⟩) len cap → 0 ≤ n → n < len → (execOp a.eval o).run P w = .ok (.value (.pointer (some ⟨b, off + n.toNat * i.size, none⟩))) w := by
      intro b off len cap hx1 h0 h1
      refine ex_of (S := Instr.indexAt t (a.eval x) (a.eval ix)) (by unfold execOp; rw [ho]) ?_
      rw [hx1, hn]
      exact indexAt_run hu hty h0 h1 w
    unfold indexAddrP at r4
    split at r4
    · rename_i nl sz dp l
      split at r4
      · rename_i hsz
        subst hsz
        obtain ⟨⟨h0, h1⟩, r5⟩ := runs_need r4
        obtain ⟨el, hel, r6⟩ := runs_ex r5
        have hB1 : Rp w G.F (.sl none nl i.size dp l) [a.eval x] ts' := hB
        generalize hv : a.eval x = v at hB1 hex
        cases hB1 with
        | @fz AA _ _ _ _ cap b off cs hc hm hn' h0' hA' hl hr hd' hw =>
          have hlt := lt_of_get hel
          obtain ⟨e2, hF⟩ := hA' (fun e => by subst e; simp at hlt)
          subst e2
          refine Yl.value (hex b off _ cap rfl h0 h1) (put_idle h hdn (v := .fa el.cellsL) ?_ rfl r6)
          exact fa_of (hr _ el hel) hF (fun q u hq => by rw [Nat.add_assoc]; exact hw n.toNat q u hlt hq)
      · exact (runs_fail r4).elim
    · rename_i s nl sz dp l
      split at r4
      · rename_i hsz
        subst hsz
        obtain ⟨⟨h0, h1⟩, r5⟩ := runs_need r4
        split at r5
        · rename_i t'
          have ht := hx t' rfl
          have hg : g1 t' = .sl (some s) nl i.size dp l := by
            obtain ⟨_, q1⟩ := runs_rd r3
            obtain ⟨q2, _⟩ := runs_ret q1
            exact q2.symm
          have hB1 : Rp w G.F (.sl (some s) nl i.size dp l) [a.eval (.tmp t')] ts' := hB
          obtain ⟨b, cap, arr, ty, cs, tf, e2, _⟩ := rp_own hB1 (fun e => by subst e; simp at h1; omega)
          refine Yl.value (hex b 0 _ cap e2 h0 h1) (put_idle h hdn (v := .ea t' [] [s] n.toNat 0) ⟨rfl, fun s' nl' sz' dp' l' rb hp hj => ?_⟩ rfl r5)
          rw [hg] at hp
          cases hp
          refine ⟨b, l.length, cap, ?_, by simp⟩
          unfold pval
          rw [base_slot (Nat.lt_of_lt_of_le ht h.hN), Option.bind_some]
          show some (a.tmps.getD t' undef) = _
          have e2' : a.tmps.getD t' undef = _ := e2
          rw [e2']
        · exact (runs_fail r5).elim
      · exact (runs_fail r4).elim
    · rename_i r jx ss
      obtain ⟨p, g1, L5, L6, r5, r6, _⟩ := Runs.bind_inv r4
      obtain ⟨e4, hp⟩ := rslP_snd r5
      subst e4
      split at r6
      · rename_i o1 nl sz dp l hp1
        split at r6
        · rename_i hsz
          subst hsz
          obtain ⟨⟨h0, h1⟩, r7⟩ := runs_need r6
          obtain ⟨s0, nl0, sz0, dp0, l0, e5⟩ := hp.own
          rw [e5] at hp1
          cases hp1
          rw [e5] at hp
          have hxv := hB.2.2 s0 nl i.size dp l _ hp
          obtain ⟨_, u0, hu0, hux, hrp⟩ := h.rootOk hp hxv hB.2.1
          obtain ⟨vp, tp, pre, post, q1, q2, q3, _⟩ := path_rep hp hrp
          rw [q1] at hux
          cases hux
          obtain ⟨b, cap, arr, ty, cs, tf, e2, _⟩ := rp_own q2 (fun e => by subst e; simp at h1; omega)
          refine Yl.value (hex b 0 _ cap e2 h0 h1) (put_idle h hdn (v := .ea r jx ss n.toNat 0) ⟨rfl, fun s' nl' sz' dp' l' rb hp2 hj => ?_⟩ rfl r7)
          have hxv2 := hB.2.2 s' nl' sz' dp' l' rb hp2
          have := path_fun hp hp2
          cases this
          exact ⟨b, l.length, cap, by rw [hxv, e2], by simp⟩
        · exact (runs_fail r6).elim
      · exact (runs_fail r6).elim
    · rename_i l
      split at r4
      · rename_i hsz
        obtain ⟨⟨h0, h1⟩, r5⟩ := runs_need r4
        split at r5
        · rename_i m o1 hm
          obtain ⟨e1, b0, cap, e2, hF, hc⟩ := hB
          subst e1
          obtain ⟨b, z1, h2, h3⟩ := hc n.toNat m o1 hm
          have hv := hex b0 0 l.length cap e2 h0 h1
          rw [hsz, Nat.mul_one, Nat.zero_add] at hv
          exact Yl.value hv (put_idle h hdn (v := .pfa m o1) ⟨rfl, b, z1, b0, n.toNat, h2, hF, rfl, h3⟩ rfl r5)
        · exact (runs_fail r5).elim
      · exact (runs_fail r4).elim
    · exact (runs_fail r4).elim
  · exact (runs_fail r2).elim
theorem index_snd (hE : E.tb.okB P = true) (h : Rel W0 N G g a w []) {t : Nat} {x ix : Operand} (ho : o.op = .index t x ix) (hd : o.dst = some d) (hdn : d < N) (hx : opOk N x) (hix : opOk N ix) {i : TI} (hi : E.tb.get t = some i) (hk : i.k = .str) (hr : Runs Imp ((rdo ix).bind fun n => match n with
        | .i _ n => (rdo x).bind fun v => indexP d n v
        | _ => .fail) g () g' L) : Yl P o a w (Fin W0 N g' a o.dst) := by
  rw [hd]
  obtain ⟨A, g1, L1, L2, r1, r2, _⟩ := Runs.bind_inv hr
  obtain ⟨e1, ts, hA, _⟩ := rdo_snd h hix r1
  subst e1
  obtain ⟨_, ds, _, hs⟩ := tb_ok hE hi
  have d1 := hs.desc
  rw [hk] at d1
  subst d1
  split at r2
  · rename_i k1 n
    have hn : a.eval ix = .int k1 n := by generalize a.eval ix = v at hA; cases hA; rfl
    obtain ⟨B, g1, L3, L4, r3, r4, _⟩ := Runs.bind_inv r2
    obtain ⟨e1, ts', hB, _⟩ := rdo_snd h hx r3
    subst e1
    unfold indexP at r4
    split at r4
    · rename_i y
      obtain ⟨h0, r5⟩ := runs_need r4
      obtain ⟨el, ⟨b, hb, rfl⟩, r6⟩ := runs_ex r5
      have hy : a.eval x = .string y := by generalize a.eval x = v at hB; cases hB; rfl
      refine Yl.value (ex_of (S := Instr.index t (a.eval x) (a.eval ix)) (by unfold execOp; rw [ho]) ?_) (put_idle h hdn (rv_i _ _) rfl r6)
      rw [hy, hn]
      simp [Instr.index, asIntOf, run_underlying hs.hu, h0, hb]
    · exact (runs_fail r4).elim
  · exact (runs_fail r2).elim
end
end Go.Proofs.Ytjihjjbieeofdaa.T
namespace Go.Proofs.Ytjihjjbieeofdaa.T
set_option linter.unusedSimpArgs false
set_option linter.unusedVariables false
open Go Go.RowKit
set_option linter.unusedVariables false
set_option linter.unusedSimpArgs false
section
variable {P : Program} {W0 : Bs} {N : Nat} {G G' : Gh} {g g' : Nat → AV} {a a' : Act} {w w' : World} {X X' : List Nat} {L : Lg} {k d : Nat} {E : Env} {o : Oper} {Imp : Nat → List AV → AV → Prop}
theorem loadCells_run {b off : Nat} {us : Nat → Value} : ∀ (n i : Nat) (acc : Array Value), (∀ q, i ≤ q → q < i + n → w.cell? ⟨b, off + q, none⟩ = some (us q)) → (loadCellsFrom ⟨b, off, none⟩ i n acc).run P w = .ok (acc ++ ((List.range n).map fun q => us (i + q)).toArray) w
  | 0, i, acc, h => by simp [loadCellsFrom]
  | n + 1, i, acc, h => by
    have h1 := h i (Nat.le_refl _) (by omega)
    simp only [loadCellsFrom, Addr.add_lit, Sem.run_bind, run_load, h1]
    show (loadCellsFrom ⟨b, off, none⟩ (i + 1) n (acc.push (us i))).run P w = _
    rw [loadCells_run n (i + 1) (acc.push (us i)) (fun q h2 h3 => h q (by omega) (by omega))]
    congr 1
    apply Array.ext'
    simp only [Array.toList_append, Array.toList_push, List.append_assoc]
    congr 1
    rw [List.range_succ_eq_map, List.map_cons, List.map_map]
    simp only [List.cons_append, List.nil_append, Nat.add_zero]
    congr 1
    apply List.map_congr_left
    intro q _
    simp only [Function.comp]
    congr 1
    omega
theorem loadAt_run {t : Nat} {i : TI} {info : TypeInfo} {ds : TypeDesc} {z : Value} (hty : TyOk P t i info ds z) {b off : Nat} {us : Nat → Value} (h : ∀ q, q < i.size → w.cell? ⟨b, off + q, none⟩ = some (us q)) : (Instr.loadAt t (.pointer (some ⟨b, off, none⟩))).run P w = .ok (if i.isAgg then .agg ((List.range i.size).map us).toArray else us 0) w := by
  by_cases hag : i.isAgg = true
  · have := loadCells_run (P := P) (w := w) (b := b) (off := off) (us := us) i.size 0 #[] (fun q _ hq => h q (by omega))
    simp [Instr.loadAt, Instr.sureAddr, loadVar, hty.isAgg, hag, hty.sizeOf, loadCells, this]
  · have h0 := h 0 hty.pos
    rw [Nat.add_zero] at h0
    simp [Instr.loadAt, Instr.sureAddr, loadVar, hty.isAgg, hag, h0]
theorem rdl_snd {n off : Nat} : ∀ {z j : Nat} {cs : List AV} {L : Lg} {g' : Nat → AV}, Runs Imp (rdl n off j z) g cs g' L → g' = g ∧ cs.length = z ∧ ∀ q, q < z → cs[q]? = some (pvOf (loc n (off + (j + q))) (g (loc n (off + (j + q)))))
  | 0, j, cs, L, g', h => by
    obtain ⟨rfl, e1⟩ := runs_ret h
    exact ⟨e1, rfl, fun q hq => by omega⟩
  | z + 1, j, cs, L, g', h => by
    obtain ⟨_, h1⟩ := runs_rd h
    obtain ⟨vs, g1, L1, L2, r1, r2, _⟩ := Runs.bind_inv h1
    obtain ⟨e1, e2, e3⟩ := rdl_snd r1
    obtain ⟨rfl, e4⟩ := runs_ret r2
    refine ⟨e4.trans e1, by simp [e2], fun q hq => ?_⟩
    cases q with
    | zero => simp only [List.getElem?_cons_zero, Nat.add_zero]
    | succ q =>
      rw [List.getElem?_cons_succ, e3 q (by omega), show j + 1 + q = j + (q + 1) by omega]
theorem pvI_snoc (w : World) : ∀ (ix : List Nat) (u : Value) (j : Nat), pvI w (ix ++ [j]) u = (pvI w ix u).bind (pvI w [j])
  | [], u, j => rfl
  | i :: ix, u, j => by
    cases u with
    | slice A len cap =>
      cases A with
      | none => rfl
      | some ad =>
        simp only [List.cons_append, pvI]
        cases w.cell? ⟨ad.block, i, none⟩ with
        | none => rfl
        | some v =>
          simp only [Option.bind_some]
          exact pvI_snoc w ix v j
    | _ => rfl
theorem load_snd (hE : E.tb.okB P = true) (h : Rel W0 N G g a w []) {t : Nat} {x : Operand} (ho : o.op = .load t x) (hd : o.dst = some d) (hdn : d < N) (hx : opOk N x) {i : TI} (hi : E.tb.get t = some i) (hr : Runs Imp ((rdo x).bind fun v => loadP E d i v) g () g' L) : Yl P o a w (Fin W0 N g' a o.dst) := by
  rw [hd]
  obtain ⟨A, g1, L1, L2, r1, r2, _⟩ := Runs.bind_inv hr
  obtain ⟨e1, ts, hA, _⟩ := rdo_snd h hx r1
  subst e1
  obtain ⟨_, ds, z, hty⟩ := tb_ok hE hi
  have hex : ∀ (b off : Nat) (us : Nat → Value), a.eval x = .pointer (some ⟨b, off, none⟩) → (∀ q, q < i.size → w.cell? ⟨b, off + q, none⟩ = some (us q)) → (execOp a.eval o).run P w = .ok (.value (if i.isAgg then .agg ((List.range i.size).map us).toArray else us 0)) w := by
    intro b off us hx1 hc
    refine ex_of (S := Instr.loadAt t (a.eval x)) (by unfold execOp; rw [ho]) ?_
    rw [hx1]
    exact loadAt_run hty hc
  unfold loadP at r2
  split at r2
  · rename_i cs
    have hA1 : Rp w G.F (.fa cs) [a.eval x] ts := hA
    generalize hv : a.eval x = v at hA1 hex
    cases hA1 with
    | @fa _ b u us hF hg hr hw =>
      split at r2
      · rename_i hag
        obtain ⟨hle, r3⟩ := runs_need r2
        have h1 := hex b u us rfl (fun q hq => hw q (by omega))
        rw [if_pos hag] at h1
        refine Yl.value h1 (put_idle h hdn (rp_rv (arr := ((List.range i.size).map us).toArray) ?_) rfl r3)
        have h2 : Rp w G.F (.agg (AV.fzL (cs.take i.size))) ((List.range i.size).map us).toArray.toList ((List.range (AV.fzL (cs.take i.size)).length).flatMap fun _ => []) := by
          refine .agg (by rw [fzL_len]; simp; omega) (fun j e he => ?_) (fun j e y he hy => ?_)
          · obtain ⟨e0, he0, rfl⟩ := fzL_get he
            rw [List.getElem?_take_of_lt (by have := lt_of_get he0; rw [List.length_take] at this; omega)] at he0
            exact fz_nagg (hg j e0 he0)
          · obtain ⟨e0, he0, rfl⟩ := fzL_get he
            have hj : j < i.size := by have := lt_of_get he0; rw [List.length_take] at this; omega
            rw [List.getElem?_take_of_lt hj] at he0
            have hy' : y = us j := by simpa [hj] using hy.symm
            subst hy'
            exact (hr j e0 he0).toFz (fun _ hb => hb) (fun _ hb => by cases hb)
        rwa [flat_nil] at h2
      · rename_i hag
        split at r2
        · rename_i c cs'
          have hone := hty.one (by simpa using hag)
          have h1 := hex b u us rfl (fun q hq => hw q (by simp; omega))
          rw [if_neg hag] at h1
          have h2 := (hr 0 c rfl).toFz (F' := G.F) (fun _ hb => hb) (fun _ hb => by cases hb)
          refine Yl.value h1 (put_idle h hdn ?_ (fz_own1 c) r2)
          have hn := hg 0 c rfl
          cases c with
          | any => exact rfl
          | agg l' => exact absurd rfl (hn l')
          | tup | ptr | pv | ea | psl | pfa => cases h2
          | sl o1 nl sz dp l => cases dp <;> exact h2
          | _ => exact h2
        · exact (runs_fail r2).elim
  · rename_i n off
    obtain ⟨e1, b, z0, hb, hx1⟩ := hA
    subst e1
    obtain ⟨_, r3⟩ := runs_rd r2
    split at r3
    · rename_i y hfl
      split at r3
      · rename_i hle
        have hy := h.bs n b z0 hb y hfl
        subst hy
        have hle : off + i.size ≤ z0 := by omega
        obtain ⟨hz9, _, hblt, _, arr, ty, hh, hsz, hcell⟩ := h.bx n b z0 hb
        have hc : ∀ q, q < i.size → w.cell? ⟨b, off + q, none⟩ = some (arr.getD (off + q) undef) := by
          intro q hq
          rw [cell_of_block hh, Array.getElem?_eq_getElem (by omega), Array.getD_eq_getD_getElem?, Array.getElem?_eq_getElem (by omega)]; rfl
        have hrb : ∀ q, q < i.size → RB w G.F (g1 (loc n (off + q))) (arr.getD (off + q) undef) (G.tk (loc n (off + q))) := by
          intro q hq
          refine hcell (off + q) _ (by omega) ?_
          rw [Array.getD_eq_getD_getElem?, Array.getElem?_eq_getElem (by omega)]; rfl
        have hpv0 : ∀ q, q < i.size → ∀ s, RV G g1 a w (.pv (loc n (off + q)) [] [s]) (arr.getD (off + q) undef) [] := by
          intro q hq s
          refine ⟨rfl, (hrb q hq).rp.cellsOne _ List.mem_cons_self, fun s' nl' sz' dp' l' rb hp => ?_⟩
          unfold pval
          rw [base_loc (by omega), hb, Option.bind_some]
          dsimp only
          rw [hc q hq, Option.bind_some]; rfl
        have hpvr : ∀ q, q < i.size → ∀ s nl sz dp l, g1 (loc n (off + q)) = .sl (some s) nl sz dp l → RV G g1 a w (.pv (loc n (off + q)) [] [s]) (arr.getD (off + q) undef) [] := by
          intro q hq s nl sz dp l hg
          refine ⟨rfl, (hrb q hq).rp.cellsOne _ List.mem_cons_self, fun s' nl' sz' dp' l' rb hp => ?_⟩
          unfold pval
          rw [base_loc (by omega), hb, Option.bind_some]
          dsimp only
          rw [hc q hq, Option.bind_some]; rfl
        have h1 := hex b off (fun q => arr.getD (off + q) undef) hx1 hc
        split at r3
        · rename_i hag
          rw [if_pos hag] at h1
          rw [rdlK_eq] at r3
          obtain ⟨cs, g2, L3, L4, r4, r5, _⟩ := Runs.bind_inv r3
          obtain ⟨e2, e3, e4⟩ := rdl_snd r4
          subst e2
          refine Yl.value h1 (put_idle h hdn (v := .agg cs) ⟨_, rfl, by simp [e3], fun _ => [], flat_nil.symm, fun j e y hj hy => ?_⟩ rfl r5)
          have hjl : j < i.size := by rw [← e3]; exact lt_of_get hj
          rw [e4 j hjl] at hj
          have hy' : y = arr.getD (off + j) undef := by simpa [hjl] using hy.symm
          subst hy'
          simp only [Nat.zero_add, Option.some.injEq] at hj
          subst hj
          have hR := (hrb j hjl).rp
          have hP := hpvr j hjl
          unfold pvOf
          split
          · rename_i s nl sz dp l hg
            exact hP s nl sz dp l hg
          · rename_i hno
            have hnn : (g2 (loc n (off + j))).own1 = false := by
              cases hg : g2 (loc n (off + j)) with
              | sl o1 nl sz dp l =>
                cases o1 with
                | none => rfl
                | some s => exact absurd hg (hno s nl sz dp l)
              | _ => rfl
            have hna : ∀ l', g2 (loc n (off + j)) ≠ .agg l' := (hrb j hjl).na
            have h2 : Rp w G.F _ _ _ := hR
            have h3 := h2.noTok hnn hna
            rw [h3] at h2
            revert h2 hna
            generalize g2 (loc n (off + j)) = v
            intro hna h2
            cases v with
            | agg l' => exact absurd rfl (hna l')
            | pv => cases h2
            | _ => exact h2
        · rename_i hag
          have hone := hty.one (by simpa using hag)
          rw [if_neg hag] at h1
          rw [Nat.add_zero] at h1
          have hR : Rp w G.F _ _ _ := (hrb 0 (by omega)).rp
          have hNA := (hrb 0 (by omega)).na
          have hP := hpvr 0 (by omega)
          rw [Nat.add_zero] at hR hP hNA
          have hP0 := hpv0 0 (by omega) 0
          rw [Nat.add_zero] at hP0
          split at r3
          · exact Yl.value h1 (put_idle h hdn hP0 rfl r3)
          obtain ⟨_, r4⟩ := runs_rd r3
          split at r4
          · rename_i s nl sz dp l hg
            split at r4
            · obtain ⟨_, r5⟩ := runs_upd r4
              have hp0 : Path (g1 (loc n off)) [] [s] (.sl (some s) nl sz dp l) (fun x => x) := by rw [hg]; exact .nil
              have hpv := (hP s nl sz dp l hg).2.2 s nl sz dp l _ hp0
              obtain ⟨G', k1, k2, k3, k4, k5⟩ := h.fzP hp0 hpv (hP s nl sz dp l hg).2.1 (fun m => loc999 h hp0 hpv (hP s nl sz dp l hg).2.1)
              exact Yl.value h1 (put_idle k1 hdn (RV.of k2 (fz_flat rfl)) (fz_own1 _) r5)
            · exact Yl.value h1 (put_idle h hdn (hP s nl sz dp l hg) rfl r4)
          · rename_i hno
            have hnn : (g1 (loc n off)).own1 = false := by
              cases hg : g1 (loc n off) with
              | sl o1 nl sz dp l =>
                cases o1 with
                | none => rfl
                | some s => exact absurd hg (hno s nl sz dp l)
              | _ => rfl
            have hna : ∀ l', g1 (loc n off) ≠ .agg l' := hNA
            have h3 := hR.noTok hnn hna
            rw [h3] at hR
            refine Yl.value h1 (put_idle h hdn ?_ hnn r4)
            revert hR hna
            generalize g1 (loc n off) = v
            intro hR hna
            cases v with
            | any => exact rfl
            | agg l' => exact absurd rfl (hna l')
            | tup | ptr | pv | ea | psl | pfa => cases hR
            | _ => exact hR
      · exact (runs_fail r3).elim
    · exact (runs_fail r3).elim
  · rename_i r ix ss j u
    obtain ⟨p, g2, L3, L4, r3, r4, _⟩ := Runs.bind_inv r2
    obtain ⟨e2, hp⟩ := rslP_snd r3
    subst e2
    obtain ⟨s0, nl0, sz0, dp0, l0, e5⟩ := hp.own
    rw [e5] at hp r4
    dsimp only at r4
    obtain ⟨el, hel, r5⟩ := runs_ex r4
    have hj := lt_of_get hel
    obtain ⟨b, len, cap, hpv, hx1⟩ := hA.2 s0 nl0 sz0 dp0 l0 _ hp hj
    obtain ⟨_, u0, hu0, hux, hrp⟩ := h.rootOk hp hpv rfl
    obtain ⟨vp, tp, pre, post, q1, q2, q3, _⟩ := path_rep hp hrp
    rw [q1] at hux
    cases hux
    obtain ⟨b', cap', arr, ty, cs, tf, e2, e3, e4, hh, _, _, hsz, hl, hre, hwc, _⟩ := rp_own q2 (fun e => by subst e; simp at hj)
    cases e2
    have hRe := hre j el hel
    have hlen := hRe.len
    have hcell : ∀ q y, (cs j)[q]? = some y → w.cell? ⟨b, j * sz0 + q, none⟩ = some y := fun q y hy => by
      rw [cell_of_block hh]; exact hwc j q y hj hy
    split at r5
    · rename_i es
      obtain ⟨t2, hl2, hg2, hr2, _⟩ := rp_agg hRe
      split at r5
      · exact (runs_fail r5).elim
      · rename_i hno
        have own0 : ∀ (q : Nat) (e : AV), es[u + q]? = some e → e.own1 = false := fun q e he => by
          have := List.any_eq_false.1 (by simpa using hno : (es.drop u).any AV.own1 = false) e (List.mem_of_getElem? (i := q) (by rw [List.getElem?_drop]; exact he))
          simpa using this
        have rc : ∀ (q : Nat) (e : AV), es[u + q]? = some e → RC G g2 a w e ((cs j).getD (u + q) undef) [] := by
          intro q e he
          have hlt := lt_of_get he
          have hy : (cs j)[u + q]? = some ((cs j)[u + q]'(by omega)) := List.getElem?_eq_getElem (by omega)
          have h1 := hr2 (u + q) e _ he hy
          have h2 := h1.noTok (own0 q e he) (hg2 _ e he)
          rw [h2] at h1
          rw [List.getD_eq_getElem?_getD, hy]
          have hna := hg2 _ e he
          cases e with
          | agg l' => exact absurd rfl (hna l')
          | pv => cases h1
          | _ => exact h1
        have hlt : ∀ q, u + q < es.length → w.cell? ⟨b, j * sz0 + u + q, none⟩ = some ((cs j).getD (u + q) undef) := by
          intro q hq
          have hy : (cs j)[u + q]? = some ((cs j)[u + q]'(by omega)) := List.getElem?_eq_getElem (by omega)
          rw [List.getD_eq_getElem?_getD, hy, Nat.add_assoc]
          exact hcell (u + q) _ hy
        split at r5
        · rename_i hag
          obtain ⟨hle, r6⟩ := runs_need r5
          have h1 := hex b _ (fun q => (cs j).getD (u + q) undef) hx1 (fun q hq => hlt q (by omega))
          rw [if_pos hag] at h1
          refine Yl.value h1 (put_idle h hdn (v := .agg ((es.drop u).take i.size)) ⟨_, rfl, by simp; omega, fun _ => [], flat_nil.symm, fun q e y he hy => ?_⟩ rfl r6)
          have hq : q < i.size := by have := lt_of_get he; rw [List.length_take] at this; omega
          rw [List.getElem?_take_of_lt hq, List.getElem?_drop] at he
          have hy' : y = (cs j).getD (u + q) undef := by simpa [hq] using hy.symm
          subst hy'
          exact rc q e he
        · rename_i hag
          have hone := hty.one (by simpa using hag)
          split at r5
          · rename_i c cs' hdr
            have hc0 : es[u + 0]? = some c := by
              have := List.getElem?_drop (xs := es) (i := u) (j := 0)
              rw [hdr] at this
              simpa using this.symm
            have h1 := hex b _ (fun q => (cs j).getD (u + q) undef) hx1 (fun q hq => hlt q (by have := lt_of_get hc0; omega))
            rw [if_neg hag] at h1
            exact Yl.value h1 (put_idle h hdn (rc_rv (rc 0 c hc0)) (own0 0 c hc0) r5)
          · exact (runs_fail r5).elim
    · rename_i s1 nl1 sz1 dp1 l1
      split at r5
      · exact (runs_fail r5).elim
      · rename_i hcond
        simp only [Bool.or_eq_true, bne_iff_ne, ne_eq, not_or, Decidable.not_not] at hcond
        obtain ⟨hag, hu⟩ := hcond
        subst hu
        have hone := hty.one (by simpa using hag)
        obtain ⟨y, hcy, hy1⟩ := hRe.one (fun l' e => by cases e)
        have hsz1 : sz0 = 1 := by have := hl j hj; rw [hcy] at this; simpa using this.symm
        subst hsz1
        have h1 := hex b _ (fun _ => y) hx1 (fun q hq => by
          have : q = 0 := by omega
          subst this
          have := hcell 0 y (by rw [hcy]; rfl)
          simpa using this)
        rw [if_neg hag] at h1
        refine Yl.value h1 (put_idle h hdn (v := .pv r (ix ++ [j]) (ss ++ [s1])) ⟨rfl, hy1, fun s' nl' sz' dp' l' rb hp2 => ?_⟩ rfl r5)
        have := hpv
        unfold pval at this ⊢
        rw [hu0, Option.bind_some] at this ⊢
        rw [pvI_snoc, this, Option.bind_some]
        have hcc := hcell 0 y (by rw [hcy]; rfl)
        simp only [Nat.mul_one, Nat.add_zero] at hcc
        simp [pvI, hcc]
    · split at r5
      · exact (runs_fail r5).elim
      · rename_i hn1 hn2 hcond
        simp only [Bool.or_eq_true, bne_iff_ne, ne_eq, not_or, Decidable.not_not] at hcond
        obtain ⟨hag, hu⟩ := hcond
        subst hu
        have hone := hty.one (by simpa using hag)
        have hna : ∀ l', el ≠ .agg l' := fun l' e => hn1 l' e
        have hno : el.own1 = false := by
          cases el with
          | sl o1 nl sz dp l =>
            cases o1 with
            | none => rfl
            | some s => exact absurd rfl (hn2 s nl sz dp l)
          | _ => rfl
        obtain ⟨y, hcy, hy1⟩ := hRe.one hna
        have h1 := hex b _ (fun _ => y) hx1 (fun q hq => by
          have : q = 0 := by omega
          subst this
          have := hcell 0 y (by rw [hcy]; rfl)
          simpa using this)
        rw [if_neg hag] at h1
        have ht := hRe.noTok hno hna
        rw [ht, hcy] at hRe
        refine Yl.value h1 (put_idle h hdn ?_ hno r5)
        cases el with
        | any => exact rfl
        | agg l' => exact absurd rfl (hna l')
        | tup | ptr | pv | ea | psl | pfa => cases hRe
        | _ => exact hRe
  · rename_i n off
    obtain ⟨e1, b, z0, b0, j, hb, hF, hx1, hc⟩ := hA
    subst e1
    split at r2
    · exact (runs_fail r2).elim
    · rename_i hag
      have hone := hty.one (by simpa using hag)
      have h1 := hex b0 j (fun _ => .pointer (some ⟨b, off, none⟩)) hx1 (fun q hq => by
        have : q = 0 := by omega
        subst this; exact hc)
      rw [if_neg hag] at h1
      exact Yl.value h1 (put_idle h hdn (v := .ptr n off) ⟨rfl, b, z0, hb, rfl⟩ rfl r2)
  · exact (runs_fail r2).elim
end
end Go.Proofs.Ytjihjjbieeofdaa.T
namespace Go.Proofs.Ytjihjjbieeofdaa.T
set_option linter.unusedSimpArgs false
set_option linter.unusedVariables false
open Go Go.RowKit
set_option linter.unusedVariables false
set_option linter.unusedSimpArgs false
section
variable {P : Program} {W0 : Bs} {N : Nat} {G G' : Gh} {g g' : Nat → AV} {a a' : Act} {w w' : World} {X X' : List Nat} {L : Lg} {k d : Nat} {E : Env} {o : Oper} {Imp : Nat → List AV → AV → Prop}
theorem frozen_of_block {w : World} {b o : Nat} {arr : Array Value} {ty : TypeId} (h : w.heap[b]? = some (.cells arr ty (0, 0))) : w.frozen? ⟨b, o, none⟩ = false := by
  simp [World.frozen?, h]
theorem store_run {b off : Nat} {arr : Array Value} {ty : TypeId} (h : w.heap[b]? = some (.cells arr ty (0, 0))) (ho : off < arr.size) {y : Value} (hy : y.oneCell' = true) : (store ⟨b, off, none⟩ y).run P w = .ok () (w.setCell ⟨b, off, none⟩ y) := by
  have h1 := run_store P w ⟨b, off, none⟩ y .plain hy
  rw [cell_of_block h, Array.getElem?_eq_getElem ho] at h1
  simp only [frozen_of_block h, Bool.false_eq_true, if_false] at h1
  exact h1
/-- The cells of a value that memory may hold. -/
theorem cells_rv {v : AV} {x : Value} {ts : List Nat} (h : RV G g a w v x ts) (hm : v.memOk = true) : ∃ tf : Nat → List Nat, ts = (List.range v.cellsL.length).flatMap tf ∧ x.cells.size = v.cellsL.length ∧ (∀ j e y, v.cellsL[j]? = some e → x.cells[j]? = some y → Rp w G.F e [y] (tf j)) ∧ (∀ e ∈ v.cellsL, e.plain1 = true) ∧ ((∃ l, v = .agg l) ↔ ∃ arr, x = .agg arr) := by
  have single : (∀ l, v ≠ .agg l) → v.plain1 = true → Rp w G.F v [x] ts → ∃ tf : Nat → List Nat, ts = (List.range v.cellsL.length).flatMap tf ∧ x.cells.size = v.cellsL.length ∧ (∀ j e y, v.cellsL[j]? = some e → x.cells[j]? = some y → Rp w G.F e [y] (tf j)) ∧ (∀ e ∈ v.cellsL, e.plain1 = true) ∧ ((∃ l, v = .agg l) ↔ ∃ arr, x = .agg arr) := by
    intro hna hp hR
    obtain ⟨u, hu, h1⟩ := hR.one hna
    simp only [List.cons.injEq, and_true] at hu
    subst hu
    have hc : v.cellsL = [v] := by cases v <;> first | rfl | exact absurd rfl (hna _)
    have hx : x.cells = #[x] := by cases x <;> first | rfl | cases h1
    rw [hc, hx]
    refine ⟨fun _ => ts, by simp [List.range_succ], rfl, fun j e y he hy => ?_, fun e he => by rw [List.mem_singleton.1 he]; exact hp, ⟨fun ⟨l, e⟩ => absurd e (hna l), fun ⟨arr, e⟩ => by subst e; cases h1⟩⟩
    cases j with
    | zero => simp at he hy; subst he; subst hy; exact hR
    | succ j => simp at he
  cases v with
  | agg l =>
    obtain ⟨arr, e, h1⟩ := rv_cells h hm
    subst e
    obtain ⟨tf, e1, e2, e3, e4⟩ := rp_agg h1
    exact ⟨tf, e4, by simpa [Value.cells, AV.cellsL] using e1, fun j e y he hy => e3 j e y he (by simpa [Value.cells] using hy), fun e he => List.all_eq_true.1 hm e he, ⟨fun _ => ⟨_, rfl⟩, fun _ => ⟨_, rfl⟩⟩⟩
  | b | i | s | fa => exact single (fun l e => by cases e) rfl h
  | sl o1 nl sz dp l => exact single (fun l e => by cases e) rfl h
  | _ => cases hm
theorem plain_pst {v : AV} (h : v.plain1 = true) : v.pst = [] := by
  cases v <;> first | rfl | cases h
theorem plain_nagg {v : AV} (h : v.plain1 = true) : ∀ l', v ≠ AV.agg l' := fun l' e => by subst e; cases h
theorem wrl_snd {n b z off : Nat} : ∀ {vs : List AV} {ys : List Value} {j : Nat} {tf : Nat → List Nat} {G : Gh} {g : Nat → AV} {w : World} {X0 : List Nat} {L : Lg}, Rel W0 N G g a w X0 → X0 = (List.range vs.length).flatMap tf ++ X → G.bx n = some (b, z) → off + j + vs.length ≤ z → ys.length = vs.length → (∀ q v y, vs[q]? = some v → ys[q]? = some y → Rp w G.F v [y] (tf q)) → (∀ v ∈ vs, v.plain1 = true) → (∀ s nl sz dp l, AV.sl (some s) nl sz dp l ∈ vs → s = k) → NoSt k g →
    Runs Imp (wrl n off j vs) g () g' L → ∃ w' G', (storeCells ⟨b, off, none⟩ ys j).run P w = .ok () w' ∧ Rel W0 N G' g' a w' X
  | [], ys, j, tf, G, g, w, X0, L, h, hX, hb, hz, hl, hv, hp, hst, hn, hr => by
    obtain ⟨_, rfl⟩ := runs_ret hr
    have : ys = [] := List.eq_nil_of_length_eq_zero (by simpa using hl)
    subst this
    exact ⟨w, G, rfl, h.drop (fun b hb => by rw [hX]; simpa using hb) (by have := h.xn; rw [hX] at this; simpa using this)⟩
  | v :: vs, [], j, tf, G, g, w, X0, L, h, hX, hb, hz, hl, hv, hp, hst, hn, hr => by simp at hl
  | v :: vs, y :: ys, j, tf, G, g, w, X0, L, h, hX, hb, hz, hl, hv, hp, hst, hn, hr => by
    obtain ⟨_, r1⟩ := runs_upd hr
    simp only [List.length_cons] at hz hl
    have hv0 := hv 0 v y rfl rfl
    have hpv := hp v List.mem_cons_self
    rw [List.length_cons, Nat.add_comm vs.length 1, List.range_add, List.flatMap_append, List.flatMap_map] at hX
    have hX1 : X0 = tf 0 ++ ((List.range vs.length).flatMap (fun q => tf (1 + q)) ++ X) := by rw [hX]; simp [List.range_succ]
    obtain ⟨hz9, hW, hlt, hnf, arr, ty, hh, hsz, hcell⟩ := h.bx n b z hb
    obtain ⟨G1, k1, k2, k3⟩ := h.stBox hb (c := off + j) (by omega) hv0 (plain_nagg hpv) hX1 (fun s nl sz dp l e l' => by
      have := hst s nl sz dp l (by rw [← e]; exact List.mem_cons_self)
      rw [this]; exact hn l')
    have hrun := store_run (P := P) hh (off := off + j) (by omega) (hv0.cellsOne y List.mem_cons_self)
    have hxb := h.xb
    have hcarry : ∀ q v' y', vs[q]? = some v' → ys[q]? = some y' → Rp (w.setCell ⟨b, off + j, none⟩ y) G1.F v' [y'] (tf (1 + q)) := by
      intro q v' y' hv' hy'
      have h1 := hv (q + 1) v' y' hv' hy'
      rw [Nat.add_comm q 1] at h1
      rw [k2]
      refine h1.move (fun _ hf => hf) (fun b' hf => setCell_heap _ _ _ _ _ (fun e => hnf (e ▸ hf))) (fun b' hb' => setCell_heap _ _ _ _ _ (fun e => ?_))
      have hin : b' ∈ X0 := by
        rw [hX1]
        exact List.mem_append_right _ (List.mem_append_left _ (mem_flat (ts := fun q => tf (1 + q)) (lt_of_get hv') hb'))
      exact (hxb b' hin).2.2.2.1 n z (e ▸ hb)
    obtain ⟨w', G', q1, q2⟩ := wrl_snd (j := j + 1) k1 rfl (by rw [k3]; exact hb) (by omega) (by omega) hcarry (fun v' hv' => hp v' (List.mem_cons_of_mem _ hv')) (fun s nl sz dp l hm => hst s nl sz dp l (List.mem_cons_of_mem _ hm)) ((Less.upd (plain_pst hpv)).noSt hn) r1
    refine ⟨w', G', ?_, q2⟩
    simp only [storeCells, Addr.add_lit, Sem.run_bind, hrun]
    exact q1
theorem storeAt_run {t : Nat} {i : TI} {info : TypeInfo} {ds : TypeDesc} {z : Value} (hty : TyOk P t i info ds z) {b off : Nat} {x : Value} (hs : x.cells.size = i.size) (hS : (storeCells ⟨b, off, none⟩ x.cells.toList).run P w = .ok () w') : (Instr.storeAt t (.pointer (some ⟨b, off, none⟩)) x).run P w = .ok () w' := by
  simp [Instr.storeAt, Instr.sureAddr, storeVar, hty.sizeOf, hs, hS]
theorem store_snd (hE : E.tb.okB P = true) (h : Rel W0 N G g a w []) (hn : NoSt (k + 1) g) {t : Nat} {x q : Operand} (ho : o.op = .store t q x) (hd : o.dst = none) (hx : opOk N x) (hq : opOk N q) {i : TI} (hi : E.tb.get t = some i) (hr : Runs Imp ((take k false false x).bind fun v => (rdo q).bind fun c => if v.cellsL.length = i.size then storeP i.size v c else .fail) g () g' L) : Yl P o a w (Fin W0 N g' a o.dst) := by
  rw [hd]
  obtain ⟨v, g1, L1, L2, r1, r2, _⟩ := Runs.bind_inv hr
  obtain ⟨G1, ts, k1, k2, k3, k4⟩ := take_snd h hx r1
  have hn1 := k3.less.noSt hn
  obtain ⟨A, g2, L3, L4, r3, r4, _⟩ := Runs.bind_inv r2
  obtain ⟨e1, ts', hA, _⟩ := rdo_snd k1 hq r3
  subst e1
  obtain ⟨_, ds, z, hty⟩ := tb_ok hE hi
  have hex : ∀ w', (Instr.storeAt t (a.eval q) (a.eval x)).run P w = .ok () w' → (execOp a.eval o).run P w = .ok .skip w' := by
    intro w' hS
    unfold execOp
    rw [ho]
    show (Sem.bind _ _).run P w = _
    rw [Sem.run_bind', hS]; rfl
  split at r4
  · rename_i hlen
    unfold storeP at r4
    split at r4
    · rename_i n off
      obtain ⟨e1, b, z0, hb, hx1⟩ := hA
      obtain ⟨_, r5⟩ := runs_rd r4
      split at r5
      · rename_i y hfl
        split at r5
        · rename_i hcond
          obtain ⟨hle, hmem⟩ := hcond
          have hy := k1.bs n b z0 hb y hfl
          subst hy
          obtain ⟨tf, c1, c2, c3, c4, c5⟩ := cells_rv k2 hmem
          obtain ⟨w', G', q1, q2⟩ := wrl_snd (P := P) (k := k + 1) (X := []) (ys := (a.eval x).cells.toList) (j := 0) k1 (by rw [c1]) hb (by omega) (by simpa using c2) (fun q v y hv hy => c3 q v y hv (by simpa using hy)) c4 (fun s nl sz dp l hm => by
            cases v with
            | agg cs => exact k4.2 cs rfl s nl sz dp l hm
            | sl o1 nl1 sz1 dp1 l1 =>
              simp only [AV.cellsL, List.mem_singleton] at hm
              exact k4.1 s nl sz dp l hm.symm
            | _ => simp [AV.cellsL] at hm) hn1 r5
          unfold Yl
          rw [hex w' (by rw [hx1]; exact storeAt_run hty (by rw [c2]; exact hlen) q1)]
          exact ⟨G', q2⟩
        · exact (runs_fail r5).elim
      · exact (runs_fail r5).elim
    · rename_i r ix ss j u
      obtain ⟨p, g3, L5, L6, r5, r6, _⟩ := Runs.bind_inv r4
      obtain ⟨e2, hp⟩ := rslP_snd r5
      subst e2
      split at r6
      · rename_i s nl sz dp l hp1
        rw [hp1] at hp
        obtain ⟨el, hel, r7⟩ := runs_ex r6
        have hj := lt_of_get hel
        obtain ⟨b, len, cap, hpv, hx1⟩ := hA.2 s nl sz dp l _ hp hj
        have hfl : ∀ m, r ≠ loc m 999 := fun m => loc999 k1 hp hpv rfl
        obtain ⟨_, u0, hu0, hux, hrp⟩ := k1.rootOk hp hpv rfl
        obtain ⟨vp, tp, pre, post, q1, q2, q3, _⟩ := path_rep hp hrp
        rw [q1] at hux
        cases hux
        obtain ⟨b', cap', arr, ty, cs, tf, e2, e3, e4, hh, hlc, _, hsz, hl, hre, hwc, _⟩ := rp_own q2 (fun e => by subst e; simp at hj)
        cases e2
        have hlen2 := (hre j el hel).len
        have hlj := hl j hj
        split at r7
        · rename_i hcond
          simp only [Bool.and_eq_true, Bool.or_eq_true] at hcond
          obtain ⟨⟨hmem, hpl⟩, hdp⟩ := hcond
          have hRv : Rp w G1.F v [a.eval x] ts := by
            cases v with
            | agg | tup | ptr | pv | ea | psl | pfa => cases hpl
            | any => cases hmem
            | _ => exact k2
          have hvn := plain_nagg hpl
          have hcl : v.cellsL = [v] := by cases v <;> first | rfl | exact absurd rfl (hvn _)
          have hone : i.size = 1 := by rw [hcl] at hlen; exact hlen.symm
          have hy1 := hRv.cellsOne _ List.mem_cons_self
          have hcells : (a.eval x).cells = #[a.eval x] := by
            revert hy1
            cases a.eval x <;> intro hy1 <;> first | rfl | cases hy1
          have go : ∀ {e' : AV} {qq : Nat}, qq = u → u < sz → ((∃ es, el = .agg es ∧ e' = .agg (es.set u v)) ∨ ((∀ es, el ≠ .agg es) ∧ u = 0 ∧ e' = v)) → ∀ {L' : Lg}, Runs Imp (Pg.wr r (p.2 (.sl (some s) nl sz dp (l.set j e'))) (.ret ())) g3 () g' L' → Yl P o a w (Fin W0 N g' a none) := by
            intro e' qq _ hu he' L' hr'
            obtain ⟨_, r8⟩ := runs_upd hr'
            obtain ⟨_, rfl⟩ := runs_ret r8
            obtain ⟨G', w1, _, _⟩ := k1.stEl hp hpv hj hfl (v := v) (y := a.eval x) (ts := ts) hRv hvn rfl (fun hd => by
              rcases hdp with h1 | h1
              · rw [hd] at h1; cases h1
              · exact h1) hel hu he' (fun s' nl' sz' dp' l' h' l2 => by
                rcases he' with ⟨es, _, e6⟩ | ⟨_, _, e6⟩
                · rw [e6] at h'; cases h'
                · rw [e6] at h'
                  rw [k4.1 _ _ _ _ _ h']; exact hn1 l2)
            unfold Yl
            rw [hex (w.setCell ⟨b, j * sz + u, none⟩ (a.eval x)) (by
              rw [hx1]
              refine storeAt_run hty (by rw [hcells, hone]; rfl) ?_
              have hin : j * sz + u < arr.size := by
                rw [hsz]
                calc j * sz + u < j * sz + sz := by omega
                  _ = (j + 1) * sz := by rw [Nat.add_mul, Nat.one_mul]
                  _ ≤ cap * sz := Nat.mul_le_mul_right _ (by omega)
              rw [hcells]
              simp [storeCells, Addr.add_lit, store_run hh hin hy1])]
            exact ⟨G', w1⟩
          split at r7
          · rename_i es
            split at r7
            · rename_i hu
              have : es.length = sz := by rw [← hlj, ← hlen2]; rfl
              exact go rfl (by omega) (.inl ⟨es, rfl, rfl⟩) r7
            · exact (runs_fail r7).elim
          · rename_i hne
            split at r7
            · rename_i hu
              have hna : ∀ es, el ≠ .agg es := fun es e => hne es e
              have : sz = 1 := by
                obtain ⟨y, hy, _⟩ := (hre j el hel).one hna
                rw [hy] at hlj
                simpa using hlj.symm
              exact go rfl (by omega) (.inr ⟨hna, hu, rfl⟩) r7
            · exact (runs_fail r7).elim
        · exact (runs_fail r7).elim
      · exact (runs_fail r6).elim
    · exact (runs_fail r4).elim
  · exact (runs_fail r4).elim
end
end Go.Proofs.Ytjihjjbieeofdaa.T

