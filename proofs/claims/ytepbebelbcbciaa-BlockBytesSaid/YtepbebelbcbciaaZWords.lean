/- Words for blocks of so many cells. No condition but that the block is so. Written by a program of this session (squeeze.py). -/
import Derived.Test.YtepbebelbcbciaaYWords
-- shaken
namespace Go.Proofs.Ytepbebelbcbciaa.Q
open Go.RowKit Go.Proofs.YtepbebelbcbciaaW.PrintWords Go.Proofs.YtepbebelbcbciaaW.PrintLast
theorem cq3 {w : World} {g : Nat} {t : TypeId} {v0 v1 v2 : Value} (h : w.heap[g]? = some (.cells #[v0, v1, v2] t (0, 0))) : w.cell? ⟨g, 0, none⟩ = some v0 ∧ w.cell? ⟨g, 1, none⟩ = some v1 ∧ w.cell? ⟨g, 2, none⟩ = some v2 ∧ w.frozen? ⟨g, 0, none⟩ = false ∧ w.frozen? ⟨g, 1, none⟩ = false ∧ w.frozen? ⟨g, 2, none⟩ = false :=
  ⟨cv h 0 v0, cv h 1 v1, cv h 2 v2, blk_frozen h 0, blk_frozen h 1, blk_frozen h 2⟩
theorem cq4 {w : World} {g : Nat} {t : TypeId} {v0 v1 v2 v3 : Value} (h : w.heap[g]? = some (.cells #[v0, v1, v2, v3] t (0, 0))) : w.cell? ⟨g, 0, none⟩ = some v0 ∧ w.cell? ⟨g, 1, none⟩ = some v1 ∧ w.cell? ⟨g, 2, none⟩ = some v2 ∧ w.cell? ⟨g, 3, none⟩ = some v3 ∧ w.frozen? ⟨g, 0, none⟩ = false ∧ w.frozen? ⟨g, 1, none⟩ = false ∧ w.frozen? ⟨g, 2, none⟩ = false ∧ w.frozen? ⟨g, 3, none⟩ = false :=
  ⟨cv h 0 v0, cv h 1 v1, cv h 2 v2, cv h 3 v3, blk_frozen h 0, blk_frozen h 1, blk_frozen h 2, blk_frozen h 3⟩
theorem cq5 {w : World} {g : Nat} {t : TypeId} {v0 v1 v2 v3 v4 : Value} (h : w.heap[g]? = some (.cells #[v0, v1, v2, v3, v4] t (0, 0))) : w.cell? ⟨g, 0, none⟩ = some v0 ∧ w.cell? ⟨g, 1, none⟩ = some v1 ∧ w.cell? ⟨g, 2, none⟩ = some v2 ∧ w.cell? ⟨g, 3, none⟩ = some v3 ∧ w.cell? ⟨g, 4, none⟩ = some v4 ∧ w.frozen? ⟨g, 0, none⟩ = false ∧ w.frozen? ⟨g, 1, none⟩ = false ∧ w.frozen? ⟨g, 2, none⟩ = false ∧ w.frozen? ⟨g, 3, none⟩ = false ∧ w.frozen? ⟨g, 4, none⟩ = false :=
  ⟨cv h 0 v0, cv h 1 v1, cv h 2 v2, cv h 3 v3, cv h 4 v4, blk_frozen h 0, blk_frozen h 1, blk_frozen h 2, blk_frozen h 3, blk_frozen h 4⟩
end Go.Proofs.Ytepbebelbcbciaa.Q
