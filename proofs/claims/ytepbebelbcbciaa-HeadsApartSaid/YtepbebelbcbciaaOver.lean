/- Rows whose second half is put over: attention of the first head stays. Conditions: the bounds that each lemma names. -/
import Derived.Test.YtepbebelbcbciaaApartWalk
import Derived.Test.YtepbebelbcbciaaEv
import Derived.Test.YtepbebelbcbciaaHeads
import Derived.Test.YtepbebelbcbciaaHeads2
import Derived.Test.YtepbebelbcbciaaSoft
import Derived.Test.YtepbebelbcbciaaSoft3
namespace Go.Proofs.Ytepbebelbcbciaa.Q
open Go.RowKit Go.Proofs.YtepbebelbcbciaaW.PrintWords Go.Proofs.YtepbebelbcbciaaW.PrintLast
set_option linter.unusedVariables false
set_option linter.unusedSimpArgs false

/-- d places from h on put to x. -/
def ov (l : List Int) (h : Nat) (x : Int) : Nat → List Int
  | 0 => l
  | d + 1 => (ov l h x d).set (h + d) x
theorem ov_length (l : List Int) (h : Nat) (x : Int) : ∀ d, (ov l h x d).length = l.length := by
  intro d
  induction d with
  | zero => rfl
  | succ d ih => rw [ov, List.length_set, ih]
theorem ov_i32 {l : List Int} {h : Nat} {x : Int} (hx : I32 x) (hl : ∀ y ∈ l, I32 y) : ∀ d, ∀ y ∈ ov l h x d, I32 y := by
  intro d
  induction d with
  | zero => exact hl
  | succ d ih =>
    intro y hy
    rcases List.mem_or_eq_of_mem_set hy with hm | hm
    · exact ih y hm
    · rw [hm]
      exact hx
theorem ov_take (l : List Int) (h : Nat) (x : Int) : ∀ d, (ov l h x d).take h = l.take h := by
  intro d
  induction d with
  | zero => rfl
  | succ d ih => rw [ov, List.take_set_of_le (by omega), ih]
theorem ov_rd (l : List Int) (h : Nat) (x : Int) (d j : Nat) (hj : j < h) : rd (ov l h x d) (j : Int) = rd l (j : Int) := by
  have e : ∀ m : List Int, rd m (j : Int) = ((m.take h)[j]?).getD 0 := by
    intro m
    rw [List.getElem?_take_of_lt hj]
    unfold rd
    rw [Int.toNat_natCast, List.getD_eq_getElem?_getD]
  rw [e, e, ov_take]
theorem ov_att (q : List Int) (ks vs : List (List Int)) (h : Nat) (x : Int) (d j : Nat) (hj : j < h) :
    sAtt (ov q h x d) (ks.map fun r => ov r h x d) (vs.map fun r => ov r h x d) h j = sAtt q ks vs h j := by
  have hm : j % h = j := Nat.mod_eq_of_lt hj
  have hp : ∀ r : List Int, sPart 0 h (ov r h x d) = sPart 0 h r := by
    intro r
    unfold sPart
    rw [Nat.zero_add, ov_take]
  unfold sAtt sHw sCol
  rw [hm, Nat.sub_self, List.map_map, List.map_map, hp]
  congr 1
  · congr 1
    refine List.map_congr_left fun r _ => ?_
    show sScore (sPart 0 h q) (sPart 0 h (ov r h x d)) = _
    rw [hp]
  · exact List.map_congr_left fun r _ => ov_rd r h x d j hj
theorem poke_state (ks : List (List Int)) (h d i : Nat) (x : Int) (hi : i < ks.length) :
    pokeRows ((ks.take i).map (fun r => ov r h x (d + 1)) ++ (ks.drop i).map (fun r => ov r h x d)) (i : Int) ((h + d : Nat) : Int) x = (ks.take (i + 1)).map (fun r => ov r h x (d + 1)) ++ (ks.drop (i + 1)).map (fun r => ov r h x d) := by
  have hd : ks.drop i = ks[i] :: ks.drop (i + 1) := List.drop_eq_getElem_cons hi
  have hlen : ((ks.take i).map (fun r => ov r h x (d + 1))).length = i := by rw [List.length_map, List.length_take]; omega
  rw [map_next _ _ i hi, hd, List.map_cons]
  unfold pokeRows
  rw [Int.toNat_natCast, Int.toNat_natCast]
  generalize (ks.take i).map (fun r => ov r h x (d + 1)) = a at *
  have hg : (a ++ ov ks[i] h x d :: (ks.drop (i + 1)).map (fun r => ov r h x d)).getD i [] = ov ks[i] h x d := by
    rw [List.getD_eq_getElem?_getD, List.getElem?_append_right (by omega), hlen, Nat.sub_self]
    rfl
  rw [hg]
  have hs := set_mid a ((ks.drop (i + 1)).map (fun r => ov r h x d)) (ov ks[i] h x d) ((ov ks[i] h x d).set (h + d) x)
  rw [hlen] at hs
  rw [hs, List.append_assoc]
  rfl
theorem state_get (ks : List (List Int)) (h d i : Nat) (x : Int) (hi : i < ks.length) :
    (((ks.take i).map (fun r => ov r h x (d + 1)) ++ (ks.drop i).map (fun r => ov r h x d)).getD i []).length = ks[i].length := by
  have hd : ks.drop i = ks[i] :: ks.drop (i + 1) := List.drop_eq_getElem_cons hi
  have hlen : ((ks.take i).map (fun r => ov r h x (d + 1))).length = i := by rw [List.length_map, List.length_take]; omega
  rw [hd, List.map_cons, List.getD_eq_getElem?_getD, List.getElem?_append_right (by omega), hlen, Nat.sub_self]
  exact ov_length _ _ _ _
theorem state_length (ks : List (List Int)) (h d i : Nat) (x : Int) :
    ((ks.take i).map (fun r => ov r h x (d + 1)) ++ (ks.drop i).map (fun r => ov r h x d)).length = ks.length := by
  rw [List.length_append, List.length_map, List.length_map, List.length_take, List.length_drop]
  omega
end Go.Proofs.Ytepbebelbcbciaa.Q
