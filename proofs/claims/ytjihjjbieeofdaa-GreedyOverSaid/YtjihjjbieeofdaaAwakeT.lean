/- tillerlaw10.awake, out of what T says of it. No condition. -/
import Derived.Test.YtjihjjbieeofdaaPO8
namespace Go.Proofs.Ytjihjjbieeofdaa.Q
open Go Go.RowKit Go.ChangeShapes Go.WideShapes Go.ChangeAt
theorem awake10_calls (w : World) : Calls Try.prog 22 #[] w fun e w' => e = .returned (.bool true) ∧ Below w.heap.size w w' :=
  (((T.awake10_ok).f (fun e he l hl => by cases he)).calls (fun _ => False) w #[] rfl (fun j e v he hv => by simp at he) (fun b hb => hb.elim)).mono fun e w' hh => by
    obtain ⟨v, S, ts, he, hb, hr, _⟩ := hh
    exact ⟨by rw [he, T.rt_true hr], hb⟩
end Go.Proofs.Ytjihjjbieeofdaa.Q
