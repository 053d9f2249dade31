/- Short words for turns that the print writes out again and again: each is a theorem whose proof is found by its own default. No condition but what each names. -/
import Derived.WalkKit
import Derived.Test.YtepbebelbcbciaaWMore
-- shaken
namespace Go.Proofs.Ytepbebelbcbciaa.Q
open Go.RowKit Go.Proofs.YtepbebelbcbciaaW.PrintWords Go.Proofs.YtepbebelbcbciaaW.PrintLast
set_option linter.unusedVariables false
set_option linter.unusedSimpArgs false
theorem bel {p : Prop} (h : p := by repeat (first | (with_reducible first | exact HB.out | apply below_alloc | apply pw_below_drewN | apply below_drew1 | refine below_set ?_ (Aside0.out (by assumption))) | exact HB.out)) : p := h
theorem bk {q p : Prop} (h0 : q) (h : q → p := by intro h0_; (repeat (first | (with_reducible exact h0_) | (with_reducible first | refine blk_drewN ?_ _ | refine blk_drew ?_ | refine blk_alloc ?_ _) | with_reducible apply blk_far)); all_goals (first | rfl | decide | assumption | exact Aside0.out (by assumption))) : p := h h0
theorem blk_put2 {w : World} {g i : Nat} {t : TypeId} {cs cs' : Array Value} {v : Value} (h : w.heap[g]? = some (.cells cs t (0, 0))) (e : cs.setIfInBounds i v = cs') : (w.setCell ⟨g, i, none⟩ v).heap[g]? = some (.cells cs' t (0, 0)) := blk_put h i v e
theorem bkp {q p : Prop} (h0 : q) (h : q → p := by intro h0_; (repeat (first | (with_reducible exact h0_) | (with_reducible first | refine blk_drewN ?_ _ | refine blk_drew ?_ | refine blk_alloc ?_ _) | with_reducible apply blk_put2 | with_reducible apply blk_far)); all_goals (first | rfl | decide | assumption | exact Aside0.out (by assumption))) : p := h h0
theorem asm {p : Prop} (h : p := by first | (with_reducible assumption) | assumption) : p := h
theorem rs {p : Prop} (h : p := by first | rfl | (simp; done) | (simp [*]; done)) : p := h
theorem ar {p : Prop} (h : p := by (try simp only [List.map_toArray, List.map_cons, List.map_nil]); first | done | rfl | (simp only [List.length_drop, List.length_take]; rfl)) : p := h
theorem bkb {w w1 w2 : World} {g : Nat} {o : Obj} (h : w.heap[g]? = some o) (hb : Below w1.heap.size w1 w2) (s : Below w.heap.size w w1 := by repeat (with_reducible first | exact Below.refl _ _ | apply below_alloc | apply pw_below_drewN | apply below_drew1)) : w2.heap[g]? = some o := blk_below (blk_below h s) hb
theorem nel {w w1 : World} {g b : Nat} {o : Obj} (h : w.heap[g]? = some o) (hg : b = w1.heap.size) (s : Below w.heap.size w w1 := by repeat (with_reducible first | exact Below.refl _ _ | apply below_alloc | apply pw_below_drewN | apply below_drew1)) : g ≠ b := by
  rw [hg]
  exact Nat.ne_of_lt (blk_lt (blk_below h s))
theorem neg_ {w w1 : World} {g b : Nat} {o : Obj} (h : w.heap[g]? = some o) (hg : b = w1.heap.size) (s : Below w.heap.size w w1 := by repeat (with_reducible first | exact Below.refl _ _ | apply below_alloc | apply pw_below_drewN | apply below_drew1)) : b ≠ g := (nel h hg s).symm
theorem bsz {w w1 : World} {b : Nat} (hg : b = w1.heap.size) (h : Below w.heap.size w w1 := by repeat (first | (with_reducible first | exact HB.out | apply below_alloc | apply pw_below_drewN | apply below_drew1 | refine below_set ?_ (Aside0.out (by assumption))) | exact HB.out)) : w.heap.size ≤ b := hg ▸ below_size h
theorem cv {w : World} {g : Nat} {t : TypeId} {cs : Array Value} (h : w.heap[g]? = some (.cells cs t (0, 0))) (i : Nat) (v : Value) (hv : cs[i]? = some v := by rfl) : w.cell? ⟨g, i, none⟩ = some v := (blk_cell h i).trans hv
section
variable {α : Type} {d : Kd α} {e base : Nat} {w w1 : World} {ok : Nat → Prop} {v : Value} {xs : List α}
theorem rr (h : d.R e w base ok v xs) (s : Below w.heap.size w w1 := by repeat (with_reducible first | exact Below.refl _ _ | apply below_alloc | apply pw_below_drewN | apply below_drew1)) : d.R e w1 base ok v xs := Kd.R_below h s
end
section
variable {P : Program} {ops : Array Oper} {rest : List Oper} {o : Oper} {a : Act} {Q : Exit → Act → World → Prop}
theorem bxe {W : World} {N : Tmp} {cs : Array Value} {t : TypeId}
    (h : ∀ g, g = W.heap.size → ∀ w1, w1.heap[g]? = some (.cells cs t (0, 0)) → Below W.heap.size W w1 → wpList P ops Q rest (a.put o.dst (.pointer (some ⟨g, 0, none⟩))) w1)
    (hgd : o.guard = none := by rfl) (hd : o.dst = some N := by rfl)
    (hrun : (execOp a.eval o).run P W = .ok (.value (.pointer (some ⟨W.heap.size, 0, none⟩))) (W.alloc (.cells cs t (0, 0))) := by first | (go_simp; done) | (go_simp; rfl)) : wpList P ops Q (o :: rest) a W := box_event hgd hd hrun h
end
end Go.Proofs.Ytepbebelbcbciaa.Q
