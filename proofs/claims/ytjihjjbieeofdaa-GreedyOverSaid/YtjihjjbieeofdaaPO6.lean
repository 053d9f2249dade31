/- What functions of the program come to, on trees. No condition but those that the theorems name. -/
import Derived.Test.YtjihjjbieeofdaaPO5
namespace Go.Proofs.Ytjihjjbieeofdaa.T
set_option linter.unusedSimpArgs false
set_option linter.unusedVariables false
open Go
set_option linter.unusedVariables false
set_option maxHeartbeats 8000000
set_option maxRecDepth 100000
def sK (D : Nat) (b : Blk) (x : List Int) : List Int := sApply D D b.k.d (sNorm x b.first)
def sV (D : Nat) (b : Blk) (x : List Int) : List Int := sApply D D b.v.d (sNorm x b.first)
def sX (D H s : Nat) (b : Blk) (x : List Int) (ks vs : List (List Int)) : List Int := (sOne D H s b x ks vs).x
def lx (D H s : Nat) (b : Blk) (F : Nat → List Int) (i : Nat) : List Int := sX D H s b (F i) (mp i fun j => sK D b (F j)) (mp i fun j => sV D b (F j))
theorem lx_len {D H s : Nat} {b : Blk} {F : Nat → List Int} {i : Nat} : (lx D H s b F i).length = (F i).length := by
  unfold lx sX sOne
  dsimp only
  rw [sHalf_len, sPlus_len]
theorem lx_i32 (D H s : Nat) (b : Blk) (F : Nat → List Int) (i : Nat) : I32s (lx D H s b F i) := sHalf_i32 _ _ _ _
end Go.Proofs.Ytjihjjbieeofdaa.T
namespace Go.Proofs.Ytjihjjbieeofdaa.T
set_option linter.unusedSimpArgs false
set_option linter.unusedVariables false
open Go
set_option linter.unusedVariables false
set_option maxHeartbeats 8000000
set_option maxRecDepth 100000
/-- Rows that come into layer l. -/
def X (D H s : Nat) (w : Wts) (F0 : Nat → List Int) : Nat → Nat → List Int
  | 0, i => F0 i
  | l + 1, i => match w.blocks[l]? with
    | some b => lx D H s b (X D H s w F0 l) i
    | none => []
def kF (D H s : Nat) (w : Wts) (F0 : Nat → List Int) (l i : Nat) : List Int := match w.blocks[l]? with
  | some b => sK D b (X D H s w F0 l i)
  | none => []
def vF (D H s : Nat) (w : Wts) (F0 : Nat → List Int) (l i : Nat) : List Int := match w.blocks[l]? with
  | some b => sV D b (X D H s w F0 l i)
  | none => []
theorem X_ok {V D H L s m : Nat} {w : Wts} {F0 : Nat → List Int} (hF : ∀ i, i < m → (F0 i).length = D ∧ I32s (F0 i)) : ∀ l, l ≤ w.blocks.length → ∀ i, i < m → (X D H s w F0 l i).length = D ∧ I32s (X D H s w F0 l i)
  | 0, _, i, hi => hF i hi
  | l + 1, hl, i, hi => by
    obtain ⟨b, hb⟩ : ∃ b, w.blocks[l]? = some b := ⟨_, List.getElem?_eq_getElem (by omega)⟩
    have e : X D H s w F0 (l + 1) i = lx D H s b (X D H s w F0 l) i := by
      show (match w.blocks[l]? with | some b => lx D H s b (X D H s w F0 l) i | none => []) = _
      rw [hb]
    rw [e]
    exact ⟨by rw [lx_len]; exact (X_ok (V := V) (L := L) hF l (by omega) i hi).1, lx_i32 _ _ _ _ _ _⟩
abbrev rows3 (o : Option Nat) (l : List (List (List Int))) : AV := .sl o none 1 true (gl (rowsA none) l)
theorem fz_blks (l : List Blk) : AV.fzL (gl (blkA none) l) = gl (blkA none) l := by
  rw [AV.fzL_map]; unfold gl; rw [List.map_map]; rfl
theorem fz_rows3 (l : List (List (List Int))) : AV.fzL (gl (rowsA none) l) = gl (rowsA none) l := by
  rw [AV.fzL_map]; unfold gl; rw [List.map_map]
  refine List.map_congr_left fun r _ => ?_
  show AV.sl none none 1 true (AV.fzL (gl (rowA none) r)) = _
  rw [fz_rows]
end Go.Proofs.Ytjihjjbieeofdaa.T
namespace Go.Proofs.Ytjihjjbieeofdaa.T
set_option linter.unusedSimpArgs false
set_option linter.unusedVariables false
open Go
set_option linter.unusedVariables false
set_option maxHeartbeats 4000000
set_option maxRecDepth 100000
def small (c : Cfg) : Prop := c.dim ≤ 8 ∧ c.hidden ≤ 8 ∧ c.layers ≤ 2
instance (c : Cfg) : Decidable (small c) := by unfold small; infer_instance
theorem gl_at {α : Type} {f : α → AV} {l : List α} {i : Nat} (d : α) (h : i < l.length) : (gl f l)[((i : Nat) : Int).toNat]? = some (f (l.getD i d)) := by
  rw [Int.toNat_natCast]; unfold gl
  rw [List.getElem?_map, List.getD_eq_getElem?_getD, List.getElem?_eq_getElem h]; rfl
theorem getD_in {α : Type} {l : List α} {i : Nat} (d : α) (h : i < l.length) : l.getD i d ∈ l := by
  rw [List.getD_eq_getElem?_getD, List.getElem?_eq_getElem h]; exact List.getElem_mem h
end Go.Proofs.Ytjihjjbieeofdaa.T
namespace Go.Proofs.Ytjihjjbieeofdaa.T
set_option linter.unusedSimpArgs false
set_option linter.unusedVariables false
open Go
set_option linter.unusedVariables false
set_option maxHeartbeats 8000000
set_option maxRecDepth 100000
end Go.Proofs.Ytjihjjbieeofdaa.T
namespace Go.Proofs.Ytjihjjbieeofdaa.T
set_option linter.unusedSimpArgs false
set_option linter.unusedVariables false
open Go
set_option linter.unusedVariables false
set_option maxHeartbeats 8000000
set_option maxRecDepth 100000
end Go.Proofs.Ytjihjjbieeofdaa.T
namespace Go.Proofs.Ytjihjjbieeofdaa.T
set_option linter.unusedSimpArgs false
set_option linter.unusedVariables false
open Go
set_option linter.unusedVariables false
set_option maxHeartbeats 8000000
set_option maxRecDepth 100000
end Go.Proofs.Ytjihjjbieeofdaa.T
namespace Go.Proofs.Ytjihjjbieeofdaa.T
set_option linter.unusedSimpArgs false
set_option linter.unusedVariables false
open Go
set_option linter.unusedVariables false
set_option maxHeartbeats 8000000
set_option maxRecDepth 100000
structure BlkS (b : Blk) : Prop where
  first : b.first.length ≤ 140737488351232
  q : b.q.d.length ≤ 140737488351232
  k : b.k.d.length ≤ 140737488351232
  v : b.v.d.length ≤ 140737488351232
  o : b.o.d.length ≤ 140737488351232
  second : b.second.length ≤ 140737488351232
  up : b.up.d.length ≤ 140737488351232
  down : b.down.d.length ≤ 140737488351232
structure WtsS (w : Wts) : Prop where
  embed : w.embed.d.length ≤ 140737488351232
  blocks : ∀ b ∈ w.blocks, BlkS b
  len : w.blocks.length ≤ 140737488351232
  last : w.last.length ≤ 140737488351232
  out : w.out.d.length ≤ 140737488351232
end Go.Proofs.Ytjihjjbieeofdaa.T
namespace Go.Proofs.Ytjihjjbieeofdaa.T
set_option linter.unusedSimpArgs false
set_option linter.unusedVariables false
open Go
set_option linter.unusedVariables false
set_option maxHeartbeats 8000000
set_option maxRecDepth 100000
end Go.Proofs.Ytjihjjbieeofdaa.T
namespace Go.Proofs.Ytjihjjbieeofdaa.T
set_option linter.unusedSimpArgs false
set_option linter.unusedVariables false
open Go
set_option linter.unusedVariables false
set_option maxHeartbeats 8000000
set_option maxRecDepth 100000
def headOk6 (c : Cfg) (w : Wts) : Prop := matOk w.embed.r w.embed.c w.embed.d c.vocab c.dim ∧ matOk w.out.r w.out.c w.out.d c.vocab c.dim ∧ (w.last.length : Int) = c.dim ∧ (w.blocks.length : Int) = c.layers
instance (c : Cfg) (w : Wts) : Decidable (headOk6 c w) := by unfold headOk6; infer_instance
instance (c : Cfg) (w : Wts) (n : Nat) : Decidable (headOk6 c w ∧ ∀ b ∈ w.blocks.take n, blkOk c b) := instDecidableAnd
end Go.Proofs.Ytjihjjbieeofdaa.T

