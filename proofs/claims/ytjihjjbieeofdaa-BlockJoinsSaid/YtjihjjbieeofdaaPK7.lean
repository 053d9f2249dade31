/- What functions of the program come to, on trees. No condition but those that the theorems name. -/
import Derived.WalkKit
import Derived.ProofKit
import Derived.OpenShut
import Derived.ShutString
import Derived.ChangeOld
import Derived.Below
import Derived.SizedLaws
import Derived.Deep.Slices
import Derived.Test.YtjihjjbieeofdaaPK6
namespace Go.Proofs.Ytjihjjbieeofdaa.T
set_option linter.unusedSimpArgs false
set_option linter.unusedVariables false
open Go
set_option linter.unusedVariables false
set_option maxHeartbeats 4000000
set_option maxRecDepth 100000
def xorU (a b : Int) : Int := IntKind.u64.wrap ((BitVec.ofInt IntKind.u64.bits a ^^^ BitVec.ofInt IntKind.u64.bits b).toNat : Nat)
def g1 (x : Int) : Int := IntKind.u64.wrap (xorU x (x / 1073741824) * 13787848793156543929)
def g2 (x : Int) : Int := IntKind.u64.wrap (xorU x (x / 134217728) * 10723151780598845931)
def g3 (x : Int) : Int := xorU x (x / 2147483648)
end Go.Proofs.Ytjihjjbieeofdaa.T
namespace Go.Proofs.Ytjihjjbieeofdaa.T
set_option linter.unusedSimpArgs false
set_option linter.unusedVariables false
open Go
set_option linter.unusedVariables false
set_option maxHeartbeats 8000000
set_option maxRecDepth 100000
end Go.Proofs.Ytjihjjbieeofdaa.T
namespace Go.Proofs.Ytjihjjbieeofdaa.T
set_option linter.unusedSimpArgs false
set_option linter.unusedVariables false
open Go
set_option linter.unusedVariables false
set_option maxHeartbeats 8000000
set_option maxRecDepth 100000
end Go.Proofs.Ytjihjjbieeofdaa.T
namespace Go.Proofs.Ytjihjjbieeofdaa.T
set_option linter.unusedSimpArgs false
set_option linter.unusedVariables false
open Go
set_option linter.unusedVariables false
set_option maxHeartbeats 8000000
set_option maxRecDepth 100000
/-- All numbers are 32 bits wide. -/
structure BlkI (b : Blk) : Prop where
  first : I32s b.first
  q : I32s b.q.d
  k : I32s b.k.d
  v : I32s b.v.d
  o : I32s b.o.d
  second : I32s b.second
  up : I32s b.up.d
  down : I32s b.down.d
structure WtsI (w : Wts) : Prop where
  embed : I32s w.embed.d
  blocks : ∀ b ∈ w.blocks, BlkI b
  last : I32s w.last
  out : I32s w.out.d
/-- A configuration that is right, in whole numbers. -/
structure CfgG (c : Cfg) (V D n H L s : Nat) : Prop where
  gv : c.vocab = V ∧ 2 ≤ V ∧ V ≤ 64
  gd : c.dim = D ∧ 0 < D ∧ D ≤ 32
  gn : c.heads = n ∧ 1 ≤ n ∧ n ≤ 4
  gh : c.hidden = H ∧ 0 < H ∧ H ≤ 64
  gl : c.layers = L ∧ 1 ≤ L ∧ L ≤ 4
  gs : n * s = D
end Go.Proofs.Ytjihjjbieeofdaa.T
namespace Go.Proofs.Ytjihjjbieeofdaa.T
set_option linter.unusedSimpArgs false
set_option linter.unusedVariables false
open Go
set_option linter.unusedVariables false
set_option maxHeartbeats 8000000
set_option maxRecDepth 100000
/-- More may be known of arguments. -/
theorem impl_le {P : Program} {f : Nat} {cs bs : List AV} {r : AV} (h : Impl P f cs r) (hle : le2L bs cs) (h1 : headOk bs = true) : Impl P f bs r := by
  have h2 : ∀ e, cs[0]? = some e → ∀ l, e ≠ .tup l := by
    intro e he l e'
    subst e'
    obtain ⟨e0, _, hl⟩ := (le2L_get hle).2 0 _ he
    cases e0 <;> exact hl.elim
  have hi := h.f h2
  refine headOk_impl h1 ⟨hi.fn, fun F w vs hs hv hF => hi.calls F w vs (by rw [hs]; exact (le2L_get hle).1) (fun j e v he hv2 => ?_) hF⟩
  obtain ⟨e0, he0, hl⟩ := (le2L_get hle).2 j e he
  obtain ⟨ts', t1, t2⟩ := le2_rw hl (hv j e0 v he0 hv2)
  have : ts' = [] := List.sublist_nil.1 t1
  rw [this] at t2
  exact t2
end Go.Proofs.Ytjihjjbieeofdaa.T
namespace Go.Proofs.Ytjihjjbieeofdaa.T
set_option linter.unusedSimpArgs false
set_option linter.unusedVariables false
open Go Go.RowKit Go.ChangeShapes Go.WideShapes Go.Deep
set_option linter.unusedVariables false
abbrev Old (W : World) : Nat → Prop := fun b => b < W.heap.size
structure RpL (W : World) (l : List AV) (cs : List Value) : Prop where
  len : cs.length = l.length
  each : ∀ (j : Nat) (e : AV) (u : Value), l[j]? = some e → cs[j]? = some u → RB W (Old W) e u []
theorem rpL_one {W : World} {e : AV} {v : Value} (h : RB W (Old W) e v []) : RpL W [e] [v] := ⟨rfl, fun j e' u he hu => by
  cases j with
  | zero => cases he; cases hu; exact h
  | succ j => cases he⟩
theorem rpL_app {W : World} {l m : List AV} {cs ds : List Value} (h1 : RpL W l cs) (h2 : RpL W m ds) : RpL W (l ++ m) (cs ++ ds) := by
  refine ⟨by rw [List.length_append, List.length_append, h1.len, h2.len], fun j e u he hu => ?_⟩
  by_cases hj : j < l.length
  · rw [List.getElem?_append_left hj] at he
    rw [List.getElem?_append_left (by rw [h1.len]; exact hj)] at hu
    exact h1.each j e u he hu
  · rw [List.getElem?_append_right (by omega)] at he
    rw [List.getElem?_append_right (by rw [h1.len]; omega), h1.len] at hu
    exact h2.each _ e u he hu
theorem rpL_agg {W : World} {l : List AV} {cs : List Value} (h : RpL W l cs) : Rp W (Old W) (.agg l) cs [] := by
  have h0 : (List.range l.length).flatMap (fun _ => ([] : List Nat)) = [] := by simp
  rw [← h0]
  exact .agg h.len (fun j e he => by
    have hj := lt_of_get he
    exact (h.each j e (cs[j]'(by rw [h.len]; exact hj)) he (List.getElem?_eq_getElem _)).na) (fun j e u he hu => (h.each j e u he hu).rp)
structure Rd {α : Type} (P : Program) (t : TypeId) (f : α → List AV) (wf : α → Prop) : Prop where
  out : ∀ {H : Type} (enc : TypeId × Value → H) (W : World) (fuel : Nat) (cs : List Value) (x : DataW H × List MemPlace), (∀ n ∈ DataW.weights P t x.1, n ≤ reachBytes) →
    DataW.trod enc P W 0 (fun _ => true) true fuel t cs = some x → ∃ a, RpL W (f a) cs ∧ wf a
theorem rd_int {P : Program} {t : TypeId} {k : IntKind} (ht : P.underlying t = some (.int k)) : Rd P t (fun n : Int => [.i k n]) (fun n => k.min ≤ n ∧ n ≤ k.max) := by
  constructor
  intro H enc W fuel cs x _ h
  obtain ⟨n, hc, _, hw⟩ := DataW.trod_int ht h
  rw [hc]
  exact ⟨n, rpL_one ⟨.i _ _, fun l e => by cases e⟩, by simpa [Lit.wf] using hw⟩
theorem rd_map {α β : Type} {P : Program} {t : TypeId} {f : α → List AV} {wf : α → Prop} {f' : β → List AV} {wf' : β → Prop} (g : α → β) (hf : ∀ a, f' (g a) = f a) (hw : ∀ a, wf a → wf' (g a)) (h : Rd P t f wf) : Rd P t f' wf' := by
  constructor
  intro H enc W fuel cs x hx hr
  obtain ⟨a, ha, hwa⟩ := h.out enc W fuel cs x hx hr
  exact ⟨g a, by rw [hf]; exact ha, hw a hwa⟩
theorem rd_mapR {α β : Type} {P : Program} {t : TypeId} {f : α → List AV} {wf : α → Prop} {f' : β → List AV} {wf' : β → Prop} (h : Rd P t f wf) (g : α → β) (hf : ∀ a, f' (g a) = f a) (hw : ∀ a, wf a → wf' (g a)) : Rd P t f' wf' := rd_map g hf hw h
theorem weightsAll_mem {H : Type} {P : Program} {e : TypeId} : ∀ {l : List (DataW H)} {d : DataW H} {n : Nat}, d ∈ l → n ∈ DataW.weights P e d → n ∈ DataW.weightsAll P e l
  | a :: l, d, n, hd, hn => by
    simp only [DataW.weightsAll, List.mem_append]
    rcases List.mem_cons.1 hd with rfl | hd
    · exact .inl hn
    · exact .inr (weightsAll_mem hd hn)
theorem exists_list {α : Type} (n : Nat) (p : Nat → α → Prop) (h : ∀ i, i < n → ∃ x, p i x) : ∃ l : List α, l.length = n ∧ ∀ i x, l[i]? = some x → p i x := by
  induction n with
  | zero => exact ⟨[], rfl, fun i x hx => by simp at hx⟩
  | succ n ih =>
    obtain ⟨l, hl, hp⟩ := ih (fun i hi => h i (by omega))
    obtain ⟨x, hx⟩ := h n (by omega)
    refine ⟨l ++ [x], by simp [hl], fun i y hy => ?_⟩
    rcases Nat.lt_or_ge i l.length with hi | hi
    · rw [List.getElem?_append_left hi] at hy
      exact hp i y hy
    · rw [List.getElem?_append_right hi] at hy
      have : i - l.length = 0 := by
        have := (List.getElem?_eq_some_iff.1 hy).1
        simp at this
        omega
      rw [this] at hy
      simp at hy
      subst hy
      have : i = n := by omega
      rw [this]
      exact hx
theorem cell_old {w : World} {a : Addr} {u : Value} (h : w.cell? a = some u) : a.block < w.heap.size ∧ a.spot = none := by
  unfold World.cell? at h
  split at h
  · rename_i c r f hh
    refine ⟨(Array.getElem?_eq_some_iff.1 hh).1, ?_⟩
    split at h
    · cases h
    · rename_i hs
      cases hsp : a.spot with
      | none => rfl
      | some s => rw [hsp] at hs; exact absurd rfl hs
  · cases h
theorem rd_slice {α : Type} {P : Program} {t e : TypeId} {f : α → List AV} {el : α → AV} {wf : α → Prop} {B sz : Nat} {dp : Bool} (ht : P.underlying t = some (.slice e)) (hz : P.cellsOf e = sz) (hsz : 0 < sz) (hB : P.bytesOf e = B) (he : Rd P e f wf) (hel : ∀ a, el a = .agg (f a) ∨ f a = [el a]) (hd : dp = false → ∀ a, (el a).scal = true) :
    Rd P t (fun l : List α => [.sl none none sz dp (l.map el)]) (fun l => l.length * B ≤ 140737488351232 ∧ ∀ x ∈ l, wf x) := by
  constructor
  intro H enc W fuel cs x hw h
  rcases open_slice ht h with ⟨rfl, rfl⟩ | ⟨a, len, cap, m, n, D, Pl, rfl, hb, hl, hm, hmm, rfl, hx⟩
  · refine ⟨[], rpL_one ⟨?_, fun l e => by cases e⟩, by simp, fun y hy => by cases hy⟩
    exact .fz (cap := 0) (b := 0) (off := 0) (cs := fun _ => []) (Nat.le_refl _) (by unfold maxLen; omega) (fun x hx => by cases hx) (fun _ => ⟨rfl, rfl⟩) (fun h => absurd rfl h) (fun j hj => absurd hj (Nat.not_lt_zero _)) (fun j e he => by cases he) (fun _ e he => by cases he) (fun j q u hj => absurd hj (Nat.not_lt_zero _))
  · simp only [if_true] at hmm
    subst hmm
    have hwl : (len + (m - len)) * B ≤ reachBytes := by
      have := hw ((((List.range len).map D).length + ((List.range (m - len)).map fun j => D (len + j)).length) * P.bytesOf e) (by simp [DataW.weights, ht])
      rw [List.length_map, List.length_map, List.length_range, List.length_range, hB] at this
      exact this
    have each : ∀ i, i < len → ∃ y : α × List Value, W.cells? 0 (a.add (i * P.cellsOf e)) (P.cellsOf e) = some y.2 ∧ RpL W (f y.1) y.2 ∧ wf y.1 := by
      intro i hi
      obtain ⟨cs', hc, htr⟩ := hx i (by omega)
      obtain ⟨y, hy, hwy⟩ := he.out enc W n cs' (D i, Pl i) (fun q hq => hw q (by
        simp only [DataW.weights, ht, List.mem_cons, List.mem_append]
        exact .inr (.inl (weightsAll_mem (List.mem_map.2 ⟨i, List.mem_range.2 hi, rfl⟩) hq)))) htr
      exact ⟨(y, cs'), hc, hy, hwy⟩
    obtain ⟨L, hll, hp⟩ := exists_list len _ each
    have hcell : ∀ (j q : Nat) (u : Value) (y : α × List Value), L[j]? = some y → y.2[q]? = some u → W.cell? ⟨a.block, a.off + (j * sz + q), none⟩ = some u ∧ a.block < W.heap.size ∧ (j * sz + q = 0 → a.spot = none) := by
      intro j q u y hy hu
      obtain ⟨hc, _, _⟩ := hp j y hy
      obtain ⟨_, hlen, hcell⟩ := World.cells?_some hc
      have hq : q < P.cellsOf e := by have := (List.getElem?_eq_some_iff.1 hu).1; omega
      have h1 := hcell q hq
      rw [hu, hz] at h1
      obtain ⟨h2, h3⟩ := cell_old h1
      have hadd : ((a.add (j * sz)).add q).block = a.block := by unfold Addr.add; split <;> split <;> rfl
      rw [hadd] at h2
      refine ⟨?_, h2, fun h0 => ?_⟩
      · rw [← h1]
        congr 1
        revert h3
        obtain ⟨ab, ao, asp⟩ := a
        unfold Addr.add
        by_cases c1 : j * sz = 0
        · by_cases c2 : q = 0
          · subst c2; simp only [c1, if_true]; intro h3; subst h3; rfl
          · simp [c1, c2]
        · by_cases c2 : q = 0
          · simp [c1, c2]
          · simp [c1, c2, Nat.add_assoc]
      · have c1 : j * sz = 0 := by omega
        have c2 : q = 0 := by omega
        rw [c1, c2] at h3
        exact h3
    have hlenc : ∀ (j : Nat) (y : α × List Value), L[j]? = some y → y.2.length = sz := by
      intro j y hy
      obtain ⟨hc, _, _⟩ := hp j y hy
      obtain ⟨_, hlen, _⟩ := World.cells?_some hc
      rw [hlen, hz]
    have hget : ∀ j, j < len → ∃ y, L[j]? = some y := fun j hj => ⟨_, List.getElem?_eq_getElem (by omega)⟩
    have hspot : 0 < len → a = ⟨a.block, a.off, none⟩ ∧ a.block < W.heap.size := by
      intro h0
      obtain ⟨y, hy⟩ := hget 0 h0
      have hy2 := hlenc 0 y hy
      obtain ⟨_, h2, h3⟩ := hcell 0 0 (y.2[0]'(by omega)) y hy (List.getElem?_eq_getElem _)
      have h3 := h3 (by omega)
      obtain ⟨ab, ao, asp⟩ := a
      simp only at h3
      subst h3
      exact ⟨rfl, h2⟩
    have hmapl : ((L.map (·.1)).map el).length = len := by rw [List.length_map, List.length_map, hll]
    refine ⟨L.map (·.1), rpL_one ⟨?_, fun l e => by cases e⟩, ?_, fun x hx => ?_⟩
    · have : (.slice (some a) len m : Value) = .slice (some a) ((L.map (·.1)).map el).length m := by rw [hmapl]
      rw [this]
      refine .fz (b := a.block) (off := a.off) (cs := fun j => ((L[j]?).map (·.2)).getD []) (by omega) hm (fun x hx => by cases hx) (fun h => by cases h) (fun hne => ?_) (fun j hj => ?_) (fun j e' he' => ?_) (fun hdp e' he' => ?_) (fun j q u hj hu => ?_)
      · have h0 : 0 < len := by
          rcases Nat.eq_zero_or_pos len with h | h
          · rw [h] at hmapl; exact absurd (List.eq_nil_of_length_eq_zero hmapl) hne
          · exact h
        obtain ⟨h1, h2⟩ := hspot h0
        exact ⟨by rw [← h1], h2⟩
      · obtain ⟨y, hy⟩ := hget j (by omega)
        rw [hy]; exact hlenc j y hy
      · rw [List.getElem?_map, List.getElem?_map] at he'
        obtain ⟨y, hy⟩ := hget j (by
          cases hL : L[j]? with
          | none => rw [hL] at he'; cases he'
          | some y => have := lt_of_get hL; omega)
        rw [hy] at he' ⊢
        cases he'
        obtain ⟨_, hR, _⟩ := hp j y hy
        show Rp W (Old W) (el y.1) y.2 []
        rcases hel y.1 with h1 | h1
        · rw [h1]; exact rpL_agg hR
        · rw [h1] at hR
          have hl1 : y.2.length = 1 := hR.len
          obtain ⟨v, hv⟩ := List.length_eq_one_iff.1 hl1
          rw [hv] at hR ⊢
          exact (hR.each 0 _ v rfl rfl).rp
      · obtain ⟨x, hx, rfl⟩ := List.mem_map.1 he'
        exact hd hdp x
      · obtain ⟨y, hy⟩ := hget j (by omega)
        rw [hy] at hu
        exact (hcell j q u y hy hu).1
    · rw [List.length_map, hll]
      have : len * B ≤ (len + (m - len)) * B := Nat.mul_le_mul_right _ (by omega)
      exact Nat.le_trans this hwl
    · obtain ⟨y, hy, rfl⟩ := List.mem_map.1 hx
      obtain ⟨i, hi, rfl⟩ := List.mem_iff_getElem.1 hy
      exact (hp i _ (List.getElem?_eq_getElem hi)).2.2
/-- Fields from a place on. -/
structure Sg {α : Type} (P : Program) (off n : Nat) (fs : List Field) (f : α → List AV) (wf : α → Prop) : Prop where
  out : ∀ {H : Type} (enc : TypeId × Value → H) (W : World) (fuel : Nat) (cs : List Value) (ys : List (DataW H × List MemPlace)), cs.length = off + n → ys.length = fs.length →
    (∀ (i : Nat) (g : Field), fs[i]? = some g → DataW.trod enc P W 0 (fun _ => true) true fuel g.type ((cs.drop g.offset).take (P.cellsOf g.type)) = ys[i]?) →
    (∀ m ∈ DataW.weightsEach P (fs.map (·.type)) (ys.map (·.1)), m ≤ reachBytes) → ∃ a, RpL W (f a) (cs.drop off) ∧ wf a
theorem sg_one {α : Type} {P : Program} {off n : Nat} {g : Field} {f : α → List AV} {wf : α → Prop} (ho : g.offset = off) (hz : P.cellsOf g.type = n) (h : Rd P g.type f wf) : Sg P off n [g] f wf := by
  constructor
  intro H enc W fuel cs ys hl hy hf hw
  match ys, hy with
  | [y], _ =>
    have := hf 0 g rfl
    rw [ho, hz, List.take_of_length_le (by rw [List.length_drop]; omega)] at this
    exact h.out enc W fuel _ y (fun q hq => hw q (by simpa [DataW.weightsEach] using hq)) this
theorem sg_cons {α β : Type} {P : Program} {off n m : Nat} {g : Field} {fs : List Field} {f : α → List AV} {f' : β → List AV} {wf : α → Prop} {wf' : β → Prop} (ho : g.offset = off) (hz : P.cellsOf g.type = n) (h : Rd P g.type f wf) (hs : Sg P (off + n) m fs f' wf') :
    Sg P off (n + m) (g :: fs) (fun x : α × β => f x.1 ++ f' x.2) (fun x => wf x.1 ∧ wf' x.2) := by
  constructor
  intro H enc W fuel cs ys hl hy hf hw
  match ys, hy with
  | y :: ys, hy =>
    have h0 := hf 0 g rfl
    rw [ho, hz] at h0
    obtain ⟨a, ha, hwa⟩ := h.out enc W fuel _ y (fun q hq => hw q (by simp [DataW.weightsEach, hq])) h0
    obtain ⟨b, hb, hwb⟩ := hs.out enc W fuel cs ys (by omega) (by simpa using hy) (fun i k hk => hf (i + 1) k hk) (fun q hq => hw q (by simp only [List.map_cons, DataW.weightsEach, List.mem_append]; exact .inr hq))
    refine ⟨(a, b), ?_, hwa, hwb⟩
    have := rpL_app ha hb
    rwa [← List.drop_drop, List.take_append_drop] at this
theorem rd_struct {α : Type} {P : Program} {t : TypeId} {n : Nat} {fs : Array Field} {f : α → List AV} {wf : α → Prop} (ht : P.underlying t = some (.struct fs)) (hz : P.cellsOf t = n) (h : Sg P 0 n fs.toList f wf) : Rd P t f wf := by
  constructor
  intro H enc W fuel cs x hw hx
  obtain ⟨xs, k, rfl, rfl, hl, hn, hf⟩ := DataW.trod_struct ht hx
  refine h.out enc W k cs xs (by omega) (by simpa using hn) (fun i g hi => hf i g (by simpa using hi)) (fun q hq => hw q ?_)
  simp only [DataW.weights, ht]
  exact hq
theorem sized_each {H : Type} {P : Program} {ts : List TypeId} {ds : List (DataW H)} (h : (DataW.weightsEach P ts ds).all (· ≤ reachBytes) = true) {j : Nat} {t : TypeId} {d : DataW H} (ht : ts[j]? = some t) (hd : ds[j]? = some d) :
    ∀ n ∈ DataW.weights P t d, n ≤ reachBytes := fun n hn => by
  have := List.all_eq_true.1 h _ (DataW.weights_mem_each ht hd n hn)
  simpa using this
/-- An argument, whole. -/
theorem rw_agg {W : World} {l : List AV} {arr : Array Value} (h : RpL W l arr.toList) : RW W (Old W) (.agg l) (.agg arr) [] := ⟨arr, rfl, rpL_agg h⟩
theorem rw_sl {W : World} {nl : Option Bool} {sz : Nat} {dp : Bool} {l : List AV} {A : Option Addr} {n c : Nat} (h : RpL W [.sl none nl sz dp l] (Value.slice A n c).cells.toList) : RW W (Old W) (.sl none nl sz dp l) (.slice A n c) [] := (h.each 0 _ _ rfl rfl).rp
theorem rt_true {W : World} {F : Nat → Prop} {v : Value} {ts : List Nat} (h : RT W F (.b true) v ts) : v = .bool true := by
  have h : Rp W F (.b true) [v] ts := h
  cases h; rfl
end Go.Proofs.Ytjihjjbieeofdaa.T
namespace Go.Proofs.Ytjihjjbieeofdaa.T
set_option linter.unusedSimpArgs false
set_option linter.unusedVariables false
open Go
set_option linter.unusedVariables false
def RowW (l : List Int) : Prop := l.length ≤ 140737488351232 ∧ I32s l
theorem rdNum : Rd Try.prog 83 (fun n : Int => [.i .i32 n]) (fun n => IntKind.i32.min ≤ n ∧ n ≤ IntKind.i32.max) := rd_int Try.underlying83
theorem rdInt : Rd Try.prog 3 (fun n : Int => [.i .i64 n]) (fun n => IntKind.i64.min ≤ n ∧ n ≤ IntKind.i64.max) := rd_int Try.underlying3
theorem rdRow : Rd Try.prog 51 (fun l : List Int => [rowA none l]) RowW :=
  rd_map (fun l => l) (fun l => rfl) (fun l h => ⟨by omega, fun x hx => h.2 x hx⟩) (rd_slice (el := AV.i .i32) (B := 4) (sz := 1) (dp := false) Try.underlying51 (by kernel_rfl) (by decide) (by kernel_rfl) rdNum (fun a => .inr rfl) (fun _ a => rfl))
def IntsW (l : List Int) : Prop := l.length ≤ 140737488351232 ∧ ∀ x ∈ l, IntKind.i64.min ≤ x ∧ x ≤ IntKind.i64.max
theorem rdInts : Rd Try.prog 27 (fun l : List Int => [.sl none none 1 false (ints .i64 l)]) IntsW :=
  rd_map (fun l => l) (fun l => rfl) (fun l h => ⟨by omega, fun x hx => h.2 x hx⟩) (rd_slice (el := AV.i .i64) (B := 8) (sz := 1) (dp := false) Try.underlying27 (by kernel_rfl) (by decide) (by kernel_rfl) rdInt (fun a => .inr rfl) (fun _ a => rfl))
abbrev cfgL (c : Cfg) : List AV := [.i .i64 c.vocab, .i .i64 c.dim, .i .i64 c.heads, .i .i64 c.hidden, .i .i64 c.layers]
theorem rdCfg : Rd Try.prog 23 cfgL (fun _ => True) :=
  rd_mapR (rd_struct Try.underlying23 (by kernel_rfl) (sg_cons (n := 1) rfl (by kernel_rfl) rdInt (sg_cons (n := 1) rfl (by kernel_rfl) rdInt (sg_cons (n := 1) rfl (by kernel_rfl) rdInt (sg_cons (n := 1) rfl (by kernel_rfl) rdInt (sg_one (n := 1) rfl (by kernel_rfl) rdInt)))))) (fun x => (⟨x.1, x.2.1, x.2.2.1, x.2.2.2.1, x.2.2.2.2⟩ : Cfg)) (fun _ => rfl) (fun _ _ => trivial)
structure BlkW (b : Blk) : Prop where
  i : BlkI b
  s : BlkS b
structure WtsW (w : Wts) : Prop where
  i : WtsI w
  s : WtsS w
end Go.Proofs.Ytjihjjbieeofdaa.T
namespace Go.Proofs.Ytjihjjbieeofdaa.T
set_option linter.unusedSimpArgs false
set_option linter.unusedVariables false
open Go
set_option linter.unusedVariables false
set_option maxHeartbeats 8000000
set_option maxRecDepth 100000
end Go.Proofs.Ytjihjjbieeofdaa.T
namespace Go.Proofs.Ytjihjjbieeofdaa.T
set_option linter.unusedSimpArgs false
set_option linter.unusedVariables false
open Go
set_option linter.unusedVariables false
set_option maxHeartbeats 8000000
set_option maxRecDepth 100000
end Go.Proofs.Ytjihjjbieeofdaa.T
namespace Go.Proofs.Ytjihjjbieeofdaa.T
set_option linter.unusedSimpArgs false
set_option linter.unusedVariables false
open Go Go.RowKit
set_option linter.unusedVariables false
set_option linter.unusedSimpArgs false
/-- What holds nothing else. -/
def AV.cl : AV → AV
  | .b x => .b x
  | .i k n => .i k n
  | .s x => .s x
  | .sl (some _) nl sz false l => .sl (some 0) nl sz false l
  | _ => .any
section
variable {P : Program} {W0 : Bs} {N : Nat} {G G' : Gh} {g g' : Nat → AV} {a a' : Act} {w w' : World} {E : Env} {ops : Array Oper} {st : St} {K : Exit → St → Prop}
end
end Go.Proofs.Ytjihjjbieeofdaa.T
namespace Go.Proofs.Ytjihjjbieeofdaa.T
set_option linter.unusedSimpArgs false
set_option linter.unusedVariables false
open Go
set_option linter.unusedVariables false
set_option maxHeartbeats 4000000
set_option maxRecDepth 100000
end Go.Proofs.Ytjihjjbieeofdaa.T
namespace Go.Proofs.Ytjihjjbieeofdaa.T
set_option linter.unusedSimpArgs false
set_option linter.unusedVariables false
open Go Go.RowKit
set_option linter.unusedVariables false
set_option linter.unusedSimpArgs false
inductive NLe : AV → AV → Prop
  | refl (v : AV) : NLe v v
  | sl {s s' : Nat} {nl nl' : Option Bool} {sz : Nat} {dp : Bool} {l l' : List AV} (hn : nl' = none ∨ nl' = nl) (hl : l'.length = l.length) (h : ∀ (j : Nat) (e e' : AV), l[j]? = some e → l'[j]? = some e' → NLe e e') : NLe (.sl (some s) nl sz dp l) (.sl (some s') nl' sz dp l')
  | fz {nl nl' : Option Bool} {sz : Nat} {dp : Bool} {l l' : List AV} (hn : nl' = none ∨ nl' = nl) (hl : l'.length = l.length) (h : ∀ (j : Nat) (e e' : AV), l[j]? = some e → l'[j]? = some e' → NLe e e') : NLe (.sl none nl sz dp l) (.sl none nl' sz dp l')
theorem NLe.scal {v v' : AV} (h : NLe v v') (hs : v.scal = true) : v' = v := by
  cases h with
  | refl => rfl
  | sl => cases hs
  | fz => cases hs
theorem NLe.na {v v' : AV} (h : NLe v v') (hv : ∀ l, v ≠ .agg l) : ∀ l, v' ≠ .agg l := by
  cases h with
  | refl => exact hv
  | sl => intro l e; cases e
  | fz => intro l e; cases e
theorem NLe.rp {w : World} {F : Nat → Prop} {v : AV} {cs : List Value} {ts : List Nat} (h : Rp w F v cs ts) : ∀ {v' : AV}, NLe v v' → Rp w F v' cs ts := by
  induction h with
  | @own b cap arr ty nl sz st dp l cs ts hn hh hc hm hs hl hr hw hd ih =>
    intro v' hv
    cases hv with
    | refl => exact .own hn hh hc hm hs hl hr hw hd
    | @sl _ s' _ nl' _ _ _ l' h1 h2 h3 =>
      have hget : ∀ j, j < l.length → ∃ e e', l[j]? = some e ∧ l'[j]? = some e' ∧ NLe e e' := fun j hj => ⟨l[j], l'[j], List.getElem?_eq_getElem hj, List.getElem?_eq_getElem (by omega), h3 j _ _ (List.getElem?_eq_getElem hj) (List.getElem?_eq_getElem (by omega))⟩
      have hn' : nl' ≠ some true := by rcases h1 with h1 | h1 <;> rw [h1] <;> first | exact hn | decide
      have := Rp.own (w := w) (F := F) (st := s') (nil := nl') (sz := sz) (dp := dp) (l := l') (cs := cs) (ts := ts) hn' hh (by omega) hm hs (fun j hj => hl j (by omega)) (fun j e' he' => by
        obtain ⟨e, e2, q1, q2, q3⟩ := hget j (by have := lt_of_get he'; omega)
        rw [he'] at q2; cases q2
        exact ih j e q1 q3) (fun j q u hj hu => hw j q u (by omega) hu) (fun hdp e' he' => by
        obtain ⟨j, hj⟩ := List.mem_iff_getElem?.1 he'
        obtain ⟨e, e2, q1, q2, q3⟩ := hget j (by have := lt_of_get hj; omega)
        rw [hj] at q2; cases q2
        have hs := hd hdp e (List.mem_of_getElem? q1)
        rw [q3.scal hs]; exact hs)
      rw [h2] at this
      exact this
  | own0 hn =>
    intro v' hv
    cases hv with
    | refl => exact .own0 hn
    | @sl _ s' _ nl' _ _ _ l' h1 h2 h3 =>
      have : l' = [] := List.eq_nil_of_length_eq_zero h2
      subst this
      exact .own0 (by rcases h1 with h1 | h1 <;> rw [h1] <;> first | exact hn | decide)
  | own1 hn =>
    intro v' hv
    cases hv with
    | refl => exact .own1 hn
    | @sl _ s' _ nl' _ _ _ l' h1 h2 h3 =>
      have : l' = [] := List.eq_nil_of_length_eq_zero h2
      subst this
      exact .own1 (by rcases h1 with h1 | h1 <;> rw [h1] <;> first | exact hn | decide)
  | any h => intro v' hv; cases hv; exact .any h
  | b x => intro v' hv; cases hv; exact .b x
  | i k n => intro v' hv; cases hv; exact .i k n
  | s x => intro v' hv; cases hv; exact .s x
  | @fz A nil sz dp l cap b off cs hc hm hn h0 hA hl hr hd hw ih =>
    intro v' hv
    cases hv with
    | refl => exact .fz hc hm hn h0 hA hl hr hd hw
    | @fz _ nl' _ _ _ l' h1 h2 h3 =>
      have hget : ∀ j, j < l.length → ∃ e e', l[j]? = some e ∧ l'[j]? = some e' ∧ NLe e e' := fun j hj => ⟨l[j], l'[j], List.getElem?_eq_getElem hj, List.getElem?_eq_getElem (by omega), h3 j _ _ (List.getElem?_eq_getElem hj) (List.getElem?_eq_getElem (by omega))⟩
      have hz : ∀ {m : List AV}, m = [] ↔ m.length = 0 := fun {m} => List.length_eq_zero_iff.symm
      have := Rp.fz (w := w) (F := F) (A := A) (nil := nl') (sz := sz) (dp := dp) (l := l') (cap := cap) (b := b) (off := off) (cs := cs) (by omega) hm (fun x hx => by
        rcases h1 with h1 | h1
        · rw [h1] at hx; cases hx
        · exact hn x (by rw [← h1]; exact hx)) (fun e => ⟨hz.2 (by rw [h2]; exact hz.1 (h0 e).1), (h0 e).2⟩) (fun hne => hA (fun e => hne (hz.2 (by rw [h2]; exact hz.1 e)))) (fun j hj => hl j (by omega)) (fun j e' he' => by
        obtain ⟨e, e2, q1, q2, q3⟩ := hget j (by have := lt_of_get he'; omega)
        rw [he'] at q2; cases q2
        exact ih j e q1 q3) (fun hdp e' he' => by
        obtain ⟨j, hj⟩ := List.mem_iff_getElem?.1 he'
        obtain ⟨e, e2, q1, q2, q3⟩ := hget j (by have := lt_of_get hj; omega)
        rw [hj] at q2; cases q2
        have hs := hd hdp e (List.mem_of_getElem? q1)
        rw [q3.scal hs]; exact hs) (fun j q u hj hu => hw j q u (by omega) hu)
      rw [h2] at this
      exact this
  | agg hl hg hr ih => intro v' hv; cases hv; exact .agg hl hg hr
  | fa hf hg hr hw => intro v' hv; cases hv; exact .fa hf hg hr hw
theorem NLe.le {v v' : AV} (h : NLe v v') (hs : ∃ s nl sz dp l, v = .sl (some s) nl sz dp l) : Le v v' := by
  obtain ⟨s, nl, sz, dp, l, rfl⟩ := hs
  have hv : ∃ s' nl' l', v' = .sl (some s') nl' sz dp l' := by
    cases h with
    | refl => exact ⟨_, _, _, rfl⟩
    | sl => exact ⟨_, _, _, rfl⟩
  obtain ⟨s', nl', l', rfl⟩ := hv
  exact ⟨rfl, fun {G g a w x ts} hr => ⟨ts, List.Sublist.refl _, NLe.rp (show Rp w G.F _ [x] ts from hr) h⟩, fun {w F y ts} hr => ⟨ts, List.Sublist.refl _, NLe.rp hr.rp h, fun l e => by cases e⟩, fun n hn => (by cases hn), fun e => (by cases e), fun k n e => (by cases e)⟩
theorem Le.refl' (v : AV) (hv : v.pst = []) : Le v v := ⟨hv, fun {G g a w x ts} h => ⟨ts, List.Sublist.refl _, h⟩, fun {w F y ts} h => ⟨ts, List.Sublist.refl _, h⟩, fun n h => h, fun h => h, fun k n h => h⟩
def pvOk1 (st : St) (v : AV) : Bool := match v with
  | .pv r [] [0] => Nat.blt r 1000 && (match st.get r with
    | .sl (some 0) _ _ _ _ => true
    | _ => false)
  | v => v.pst.isEmpty
def pvOkB (st : St) : St → Bool
  | [] => true
  | (_, v) :: r => pvOk1 st v && pvOkB st r
theorem pvOkB_get {st : St} : ∀ {r : St}, pvOkB st r = true → ∀ k, pvOk1 st (r.get k) = true
  | [], _, k => rfl
  | (l, v) :: r, h, k => by
    unfold pvOkB at h
    rw [Bool.and_eq_true] at h
    have e0 : St.get ((l, v) :: r) k = if l = k then v else St.get r k := rfl
    rw [e0]
    split
    · exact h.1
    · exact pvOkB_get h.2 k
theorem ptrN_get {st : St} : ∀ {r : St}, ptrB st r = true → ∀ k n, n ∈ (r.get k).pbx → st.get (loc n 999) ≠ .any
  | [], _, k, n, h => by cases h
  | (l, v) :: r, h, k, n, hn => by
    unfold ptrB at h
    rw [Bool.and_eq_true] at h
    have e0 : St.get ((l, v) :: r) k = if l = k then v else St.get r k := rfl
    rw [e0] at hn
    split at hn
    · have := List.all_eq_true.1 h.1 n hn
      unfold ptrB1 at this
      intro e
      rw [e] at this
      cases this
    · exact ptrN_get h.2 k n hn
/-- Of a place less is told. -/
theorem WP.nrm {P : Program} {W0 : Bs} {N : Nat} {c : Code} {st : St} {K : Exit → St → Prop} (l : Nat) (v' : AV) (h : st.getK l fun v => (NLe v v' ∧ (match v, v' with
  | .sl (some 0) _ _ _ _, .sl (some 0) _ _ _ _ => True
  | _, _ => False)) ∧ st.setK l v' fun st' => pvOkB st st = true ∧ ptrB st' st' = true ∧ WP P W0 N c st' K) : WP P W0 N c st K := by
  rw [St.getK_eq] at h
  obtain ⟨⟨h1, h2⟩, h3⟩ := h
  rw [St.setK_eq] at h3
  obtain ⟨h4, h5, h6⟩ := h3
  have hs : (∃ nl sz dp q, st.get l = .sl (some 0) nl sz dp q) ∧ ∃ nl sz dp q, v' = .sl (some 0) nl sz dp q := by
    split at h2
    · rename_i hv; exact ⟨⟨_, _, _, _, hv⟩, _, _, _, _, rfl⟩
    · exact h2.elim
  obtain ⟨⟨nl0, sz0, dp0, q0, hs1⟩, nl1, sz1, dp1, q1, hs2⟩ := hs
  have hle := h1.le ⟨_, _, _, _, _, hs1⟩
  constructor
  intro Q a w hsat hQ
  refine h6.run Q a w ?_ hQ
  obtain ⟨hp, G, hr⟩ := hsat
  have hget : ∀ k, (st.set l v').get k = if k = l then v' else st.get k := fun k => St.get_set st l v' k
  refine ⟨fun k s hk => ?_, ?_⟩
  · rw [hget] at hk
    split at hk
    · rw [hle.pl] at hk; cases hk
    · exact hp k s hk
  · refine hr.weak (g' := (st.set l v').get) (fun k => ?_) (fun k n hk => ptrN_get h5 k n hk)
    rw [hget]
    split
    · rename_i e; subst e; exact .inl hle
    · rename_i hkl
      have hok := pvOkB_get h4 k
      unfold pvOk1 at hok
      split at hok
      · rename_i r hv
        rw [Bool.and_eq_true, Nat.blt_eq] at hok
        refine .inr ⟨r, 0, ?_⟩
        have hr2 := hok.2
        split at hr2
        · rename_i nl sz dp c hc
          exact ⟨nl, sz, dp, c, hok.1, hv, hc, by rw [hget, if_neg hkl, hv]⟩
        · cases hr2
      · exact .inl (Le.refl' _ (by simpa using hok))
/-- One of many lists was put anew. -/
theorem nle_set {α : Type} {f : α → AV} {K : List α} {i : Nat} {r : α} {s s2 : Nat} {nl nl2 : Option Bool} {sz sz2 : Nat} {dp2 : Bool} {L : List AV} {l0 : List AV} (hl0 : ∀ j, j ≠ i → l0[j]? = (gl f K)[j]?) (hlen : l0.length = K.length) (hi : l0[i]? = some (.sl (some s2) nl2 sz2 dp2 L)) (hf : f r = .sl (some 0) none sz2 dp2 L) : NLe (.sl (some s) nl sz true l0) (.sl (some 0) none sz true (gl f (K.set i r))) := by
  refine .sl (.inl rfl) (by rw [gl_len, List.length_set, hlen]) fun j e e' h1 h2 => ?_
  unfold gl at h2
  rw [List.getElem?_map, List.getElem?_set] at h2
  by_cases hj : i = j
  · subst hj
    rw [hi] at h1
    cases h1
    rw [if_pos rfl] at h2
    have hik : i < K.length := by rw [← hlen]; exact lt_of_get hi
    rw [if_pos hik] at h2
    cases h2
    rw [hf]
    exact .sl (.inl rfl) rfl fun j e e' h1 h2 => by rw [h1] at h2; cases h2; exact .refl _
  · rw [if_neg hj] at h2
    rw [hl0 j (fun e => hj e.symm)] at h1
    unfold gl at h1
    rw [List.getElem?_map] at h1
    rw [h1] at h2
    cases h2
    exact .refl _
end Go.Proofs.Ytjihjjbieeofdaa.T
namespace Go.Proofs.Ytjihjjbieeofdaa.T
set_option linter.unusedSimpArgs false
set_option linter.unusedVariables false
open Go
set_option linter.unusedVariables false
set_option maxHeartbeats 8000000
set_option maxRecDepth 100000
/-- Rows in lists that somebody holds. -/
abbrev rowsO (r : List (List Int)) : AV := .sl (some 0) none 1 true (gl (rowA none) r)
abbrev rows3O (l : List (List (List Int))) : AV := .sl (some 0) none 1 true (gl rowsO l)
theorem fz_rowsO (l : List (List (List Int))) : AV.fzL (gl rowsO l) = gl (rowsA none) l := by
  rw [AV.fzL_map]; unfold gl; rw [List.map_map]
  refine List.map_congr_left fun r _ => ?_
  show AV.sl none none 1 true (AV.fzL (gl (rowA none) r)) = _
  rw [fz_rows]
theorem nd_set {α : Type} {f : α → AV} {K : List α} {n : Int} {m : Nat} {v : AV} {A : Prop} (h : 0 ≤ n ∧ n < (K.length : Int)) (hA : A) : (0 ≤ n ∧ n < (((gl f K).set m v).length : Int)) ∧ A := by rw [List.length_set, gl_len]; exact ⟨h, hA⟩
theorem mp_at {α : Type} {n : Nat} {F : Nat → α} {j : Nat} (h : j < (mp n F).length) : (mp n F)[j] = F j := (List.getElem_map F).trans (by rw [List.getElem_range])
theorem nle_rep {m n : Nat} {nl : Option Bool} (h : m = n) : NLe (.sl (some 0) nl 1 true (List.replicate m (.sl (some 0) (some true) 1 true []))) (rows3O (mp n fun _ => [])) := by
  subst h
  refine .sl (.inl rfl) (by rw [gl_len, mp_len, List.length_replicate]) fun j e e' h1 h2 => ?_
  have hj : j < m := by have := lt_of_get h1; rwa [List.length_replicate] at this
  rw [List.getElem?_replicate, if_pos hj] at h1
  cases h1
  unfold gl mp at h2
  rw [List.getElem?_map, List.getElem?_map, List.getElem?_range hj] at h2
  cases h2
  exact .sl (.inl rfl) rfl fun j e e' h => by cases h
theorem nle_put {K : List (List (List Int))} {n : Nat} {s2 : Nat} {nl nl2 : Option Bool} {r : List (List Int)} (hn : n < K.length) : NLe (.sl (some 0) nl 1 true (((gl rowsO K).set n .any).set n (.sl (some s2) nl2 1 true (gl (rowA none) r)))) (rows3O (K.set n r)) := by
  refine nle_set (f := rowsO) (s2 := s2) (nl2 := nl2) (fun j hj => ?_) (by rw [List.length_set, List.length_set, gl_len]) ?_ rfl
  · rw [List.getElem?_set_ne (fun e => hj e.symm), List.getElem?_set_ne (fun e => hj e.symm)]
  · rw [List.getElem?_set_self (by rw [List.length_set, gl_len]; exact hn)]
end Go.Proofs.Ytjihjjbieeofdaa.T

