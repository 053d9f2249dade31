/- How an argument that can be read as data reads by its kind: numbers, texts, rows, rows of rows, structs. No condition but that its sizes are within the form's reach. -/
import Derived.Below
import Derived.ChangeOld
import Derived.Deep.Slices
import Derived.OpenShut
import Derived.ProofKit
import Derived.ShutString
import Derived.SizedLaws
import Derived.WalkKit
import Derived.Test.YtepbebelbcbciaaWMore
namespace Go.Proofs.Ytepbebelbcbciaa.Q
open Go.RowKit Go.Proofs.YtepbebelbcbciaaW.PrintWords Go.Proofs.YtepbebelbcbciaaW.PrintLast
set_option linter.unusedVariables false
set_option linter.unusedSimpArgs false
open Go.ChangeShapes Go.WideShapes Go.Deep

/-- A row whose elements are as they should be, of elements of B bytes. -/
def WfRow {α : Type} (B : Nat) (wf : α → Prop) (l : List α) : Prop := l.length * B ≤ 140737488351232 ∧ ∀ x ∈ l, wf x
def WfInt (k : IntKind) (n : Int) : Prop := (Lit.int k n).wf = true
def WfStr (s : ByteArray) : Prop := s.size ≤ 140737488351232
structure Opens {α : Type} (P : Program) (t : TypeId) (d : Kd α) (wf : α → Prop) : Prop where
  out : ∀ {H : Type} (enc : TypeId × Value → H) (W : World) (fuel : Nat) (cs : List Value) (x : DataW H × List MemPlace), (∀ n ∈ DataW.weights P t x.1, n ≤ reachBytes) →
    DataW.trod enc P W 0 (fun _ => true) true fuel t cs = some x → ∃ a, d.K W a cs ∧ wf a
theorem opens_int {P : Program} {t : TypeId} {k : IntKind} (ht : P.underlying t = some (.int k)) : Opens P t (Kd.int k) (WfInt k) := by
  constructor
  intro H enc W fuel cs x _ h
  obtain ⟨n, hc, _, hw⟩ := DataW.trod_int ht h
  exact ⟨n, hc, hw⟩
theorem opens_bool {P : Program} {t : TypeId} (ht : P.underlying t = some .bool) : Opens P t Kd.bool (fun _ => True) := by
  constructor
  intro H enc W fuel cs x _ h
  obtain ⟨b, hc, _⟩ := DataW.trod_bool ht h
  exact ⟨b, hc, trivial⟩
theorem opens_string {P : Program} {t : TypeId} (ht : P.underlying t = some .string) : Opens P t Kd.string WfStr := by
  constructor
  intro H enc W fuel cs x hw h
  obtain ⟨s, hc, rfl, _⟩ := DataW.trod_string ht h
  refine ⟨s, hc, ?_⟩
  have := hw s.data.toList.length (by simp [DataW.weights])
  rw [Array.length_toList] at this
  exact this
theorem weightsAll_mem {H : Type} {P : Program} {e : TypeId} : ∀ {l : List (DataW H)} {d : DataW H} {n : Nat}, d ∈ l → n ∈ DataW.weights P e d → n ∈ DataW.weightsAll P e l
  | a :: l, d, n, hd, hn => by
    simp only [DataW.weightsAll, List.mem_append]
    rcases List.mem_cons.1 hd with rfl | hd
    · exact .inl hn
    · exact .inr (weightsAll_mem hd hn)
theorem exists_list {α : Type} (n : Nat) (p : Nat → α → Prop) (h : ∀ i, i < n → ∃ x, p i x) : ∃ l : List α, l.length = n ∧ ∀ i x, l[i]? = some x → p i x := by
  induction n with
  | zero => exact ⟨[], rfl, fun i x hx => by simp at hx⟩
  | succ n ih =>
    obtain ⟨l, hl, hp⟩ := ih (fun i hi => h i (by omega))
    obtain ⟨x, hx⟩ := h n (by omega)
    refine ⟨l ++ [x], by simp [hl], fun i y hy => ?_⟩
    rcases Nat.lt_or_ge i l.length with hi | hi
    · rw [List.getElem?_append_left hi] at hy
      exact hp i y hy
    · rw [List.getElem?_append_right hi] at hy
      have : i - l.length = 0 := by
        have := (List.getElem?_eq_some_iff.1 hy).1
        simp at this
        omega
      rw [this] at hy
      simp at hy
      subst hy
      have : i = n := by omega
      rw [this]
      exact hx
theorem opens_slice {α : Type} {P : Program} {t e : TypeId} {d : Kd α} {wf : α → Prop} {B : Nat} (ht : P.underlying t = some (.slice e)) (hz : P.cellsOf e = d.sz) (hB : P.bytesOf e = B)
    (he : Opens P e d wf) : Opens P t (Kd.slice e d) (WfRow B wf) := by
  constructor
  intro H enc W fuel cs x hw h
  rcases open_slice ht h with ⟨rfl, rfl⟩ | ⟨a, len, cap, m, n, D, Pl, rfl, hb, hl, hm, hmm, rfl, hx⟩
  · refine ⟨[], ⟨none, 0, rfl, Nat.le_refl _, rfl, by simp, fun hp => absurd hp (by simp)⟩, by simp, fun y hy => by cases hy⟩
  · simp only [if_true] at hmm
    subst hmm
    have hwl : (len + (m - len)) * B ≤ reachBytes := by
      have := hw ((((List.range len).map D).length + ((List.range (m - len)).map fun j => D (len + j)).length) * P.bytesOf e) (by simp [DataW.weights, ht])
      rw [List.length_map, List.length_map, List.length_range, List.length_range, hB] at this
      exact this
    have each : ∀ i, i < len → ∃ y, ∃ cs', W.cells? 0 (a.add (i * P.cellsOf e)) (P.cellsOf e) = some cs' ∧ d.K W y cs' ∧ wf y := by
      intro i hi
      obtain ⟨cs', hc, htr⟩ := hx i (by omega)
      obtain ⟨y, hy, hwy⟩ := he.out enc W n cs' (D i, Pl i) (fun q hq => hw q (by
        simp only [DataW.weights, ht, List.mem_cons, List.mem_append]
        exact .inr (.inl (weightsAll_mem (List.mem_map.2 ⟨i, List.mem_range.2 hi, rfl⟩) hq)))) htr
      exact ⟨y, cs', hc, hy, hwy⟩
    obtain ⟨l, hll, hp⟩ := exists_list len _ each
    refine ⟨l, ⟨some a, m, by rw [hll], by omega, rfl, by unfold maxLen at hm; omega, fun _ => ⟨a, rfl, fun j p hj => ?_⟩⟩, ?_, fun y hy => ?_⟩
    · obtain ⟨cs', hc, hK, _⟩ := hp j p hj
      obtain ⟨_, hlen, hcell⟩ := World.cells?_some hc
      refine ⟨cs', by rw [hlen, hz], hK, fun i u hu => ?_⟩
      have hi : i < P.cellsOf e := by have := (List.getElem?_eq_some_iff.1 hu).1; omega
      have := hcell i hi
      rw [hu, hz] at this
      rw [← this]
      congr 1
      unfold Addr.add
      by_cases c1 : j * d.sz = 0
      · by_cases c2 : i = 0
        · simp [c1, c2]
        · simp [c1]
      · by_cases c2 : i = 0
        · simp [c1, c2]
        · have : ¬ (j * d.sz + i = 0) := by omega
          simp [c1, c2, this, Nat.add_assoc]
    · rw [hll]
      have : len * B ≤ (len + (m - len)) * B := Nat.mul_le_mul_right _ (by omega)
      exact Nat.le_trans this hwl
    · obtain ⟨i, hi, rfl⟩ := List.mem_iff_getElem.1 hy
      obtain ⟨_, _, _, hwy⟩ := hp i _ (List.getElem?_eq_getElem hi)
      exact hwy
/-- Fields from a place on. -/
structure Seg {α : Type} (P : Program) (off : Nat) (fs : List Field) (d : Kd α) (wf : α → Prop) : Prop where
  out : ∀ {H : Type} (enc : TypeId × Value → H) (W : World) (n : Nat) (cs : List Value) (ys : List (DataW H × List MemPlace)), cs.length = off + d.sz → ys.length = fs.length →
    (∀ (i : Nat) (f : Field), fs[i]? = some f → DataW.trod enc P W 0 (fun _ => true) true n f.type ((cs.drop f.offset).take (P.cellsOf f.type)) = ys[i]?) →
    (∀ m ∈ DataW.weightsEach P (fs.map (·.type)) (ys.map (·.1)), m ≤ reachBytes) → ∃ a, d.K W a (cs.drop off) ∧ wf a
theorem seg_one {α : Type} {P : Program} {off : Nat} {f : Field} {d : Kd α} {wf : α → Prop} (ho : f.offset = off) (hz : P.cellsOf f.type = d.sz) (h : Opens P f.type d wf) : Seg P off [f] d wf := by
  constructor
  intro H enc W n cs ys hl hy hf hw
  match ys, hy with
  | [y], _ =>
    have := hf 0 f rfl
    rw [ho, hz, List.take_of_length_le (by rw [List.length_drop]; omega)] at this
    exact h.out enc W n _ y (fun q hq => hw q (by simpa [DataW.weightsEach] using hq)) this
theorem seg_cons {α β : Type} {P : Program} {off : Nat} {f : Field} {fs : List Field} {d : Kd α} {d' : Kd β} {wf : α → Prop} {wf' : β → Prop} (ho : f.offset = off) (hz : P.cellsOf f.type = d.sz) (h : Opens P f.type d wf) (hs : Seg P (off + d.sz) fs d' wf') :
    Seg P off (f :: fs) (Kd.pair d d') (fun x => wf x.1 ∧ wf' x.2) := by
  constructor
  intro H enc W n cs ys hl hy hf hw
  have hl' : cs.length = off + (d.sz + d'.sz) := hl
  match ys, hy with
  | y :: ys, hy =>
    have h0 := hf 0 f rfl
    rw [ho, hz] at h0
    obtain ⟨a, ha, hwa⟩ := h.out enc W n _ y (fun q hq => hw q (by simp [DataW.weightsEach, hq])) h0
    obtain ⟨b, hb, hwb⟩ := hs.out enc W n cs ys (by omega) (by simpa using hy) (fun i g hg => hf (i + 1) g hg) (fun q hq => hw q (by simp only [List.map_cons, DataW.weightsEach, List.mem_append]; exact .inr hq))
    refine ⟨(a, b), ⟨(cs.drop off).take d.sz, cs.drop (off + d.sz), ?_, ha, hb⟩, hwa, hwb⟩
    rw [← List.drop_drop, List.take_append_drop]
theorem opens_struct {α : Type} {P : Program} {t : TypeId} {fs : Array Field} {d : Kd α} {wf : α → Prop} (ht : P.underlying t = some (.struct fs)) (hz : P.cellsOf t = d.sz) (h : Seg P 0 fs.toList d wf) : Opens P t d wf := by
  constructor
  intro H enc W fuel cs x hw hx
  obtain ⟨xs, n, rfl, rfl, hl, hn, hf⟩ := DataW.trod_struct ht hx
  refine h.out enc W n cs xs (by omega) (by simpa using hn) (fun i f hi => hf i f (by simpa using hi)) (fun q hq => hw q ?_)
  simp only [DataW.weights, ht]
  exact hq
theorem opens_iso {α β : Type} {P : Program} {t : TypeId} {d : Kd α} {wf : α → Prop} {f : β → α} (g : α → β) (hg : ∀ a, f (g a) = a) (h : Opens P t d wf) : Opens P t (Kd.iso d f) (fun x => wf (f x)) := by
  constructor
  intro H enc W fuel cs x hw hx
  obtain ⟨a, ha, hwa⟩ := h.out enc W fuel cs x hw hx
  refine ⟨g a, ?_, ?_⟩
  · show d.K W (f (g a)) cs
    rw [hg]
    exact ha
  · show wf (f (g a))
    rw [hg]
    exact hwa
theorem sized_each {H : Type} {P : Program} {ts : List TypeId} {ds : List (DataW H)} (h : (DataW.weightsEach P ts ds).all (· ≤ reachBytes) = true) {j : Nat} {t : TypeId} {d : DataW H} (ht : ts[j]? = some t) (hd : ds[j]? = some d) :
    ∀ n ∈ DataW.weights P t d, n ≤ reachBytes := fun n hn => by
  have := List.all_eq_true.1 h _ (DataW.weights_mem_each ht hd n hn)
  simpa using this
end Go.Proofs.Ytepbebelbcbciaa.Q
