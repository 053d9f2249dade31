/- Functions of the program as plain Lean functions, each with a proof that the program's call comes to what it says; and rows of statements over them. No condition but those that the theorems name. Written by a program of this session (myprint.py, over the kit's print with patches of its own). -/
import Derived.Test.YtepbebelbcbciaaProg
import Derived.Lib.SliceRun
import Derived.Below
import Derived.Deep.Draws
import Derived.Deep.AppendLies
import Derived.Maps.AppendAt
import Derived.OwnWalk
import Derived.Laws.BytesArg
import Derived.Laws.MakeOwn
import Derived.Laws.OwnMore
import Derived.Deep.OwnRows
import Derived.Tactics
import Derived.Lib.ConvBytes
import Derived.Laws.Slices
import Derived.WalkKit
import Derived.KernelRfl
import Derived.RowKit3
import Derived.Deep.LoopGhost
import Derived.Deep.QuietTactic
import Derived.BigQuiet
import Derived.WideLaws
import Derived.Deep.DeepCutAuto
import Derived.Deep.CutBlock
import Derived.Deep.RegionHeld3
import Derived.Laws.Rows
import Derived.Lib.AppendStr
import Derived.ArgAppend
import Derived.Laws.IdiomCopy
import Derived.OrdersHeld
import Derived.Laws.BitsLemmas
import Derived.RowKit
import Derived.Test.YtepbebelbcbciaaWWords
import Derived.Test.YtepbebelbcbciaaWLast
import Derived.Test.YtepbebelbcbciaaWTab
import Derived.Test.YtepbebelbcbciaaWFour
import Derived.Test.YtepbebelbcbciaaWQPut
import Derived.Test.YtepbebelbcbciaaWApart
import Derived.Test.YtepbebelbcbciaaWArr
import Derived.Test.YtepbebelbcbciaaWZeros
import Derived.Test.YtepbebelbcbciaaWFoot
import Derived.Test.YtepbebelbcbciaaWKept
import Derived.Test.YtepbebelbcbciaaWShare
import Derived.Test.YtepbebelbcbciaaWN
import Derived.Test.YtepbebelbcbciaaWFootNe
import Derived.Test.YtepbebelbcbciaaWAt
import Derived.Test.YtepbebelbcbciaaWEqStruct
import Derived.Test.YtepbebelbcbciaaWRepsOne
import Derived.Test.YtepbebelbcbciaaWInv
import Derived.Test.YtepbebelbcbciaaWInvWords
import Derived.Test.YtepbebelbcbciaaWGuard
import Derived.Test.YtepbebelbcbciaaWNEv
import Derived.Test.YtepbebelbcbciaaWMore
import Derived.Test.YtepbebelbcbciaaXWords
import Derived.Test.YtepbebelbcbciaaYWords
namespace Go.Proofs.Ytepbebelbcbciaa.Q
open Go.RowKit Go.Proofs.YtepbebelbcbciaaW.PrintWords Go.Proofs.YtepbebelbcbciaaW.PrintLast Go.Proofs.YtepbebelbcbciaaW.PrintMore
attribute [local go_sem] max2_int min2_int max_two min_two max_three min_three max_four min_four   -- for this text's walks alone
set_option linter.unusedVariables false
set_option linter.unusedSimpArgs false



def errW : Option Int → Value
 | none => .nilIface
 | some c => .iface 0 (.int .i64 c)
theorem errW_none : errW none = .nilIface := rfl
theorem errW_some (c : Int) : errW (some c) = .iface 0 (.int .i64 c) := rfl

theorem info3 : (Try.prog.info? 3).map (fun i => (i.zero, i.size, i.bytes)) = some (some (.int .i64 0), 1, 8) := by kernel_rfl
theorem info5 : (Try.prog.info? 5).map (fun i => (i.zero, i.size, i.bytes)) = some (some (.int .u8 0), 1, 1) := by kernel_rfl
theorem info25 : (Try.prog.info? 25).map (fun i => (i.zero, i.size, i.bytes)) = some (some (.slice none 0 0), 1, 24) := by kernel_rfl
theorem info29 : (Try.prog.info? 29).map (fun i => (i.zero, i.size, i.bytes)) = some (some (.agg #[(.slice none 0 0), (.int .i64 0), (.slice none 0 0), (.slice none 0 0)]), 4, 80) := by kernel_rfl
theorem info61 : (Try.prog.info? 61).map (fun i => (i.zero, i.size, i.bytes)) = some (some (.slice none 0 0), 1, 24) := by kernel_rfl
theorem info62 : (Try.prog.info? 62).map (fun i => (i.zero, i.size, i.bytes)) = some (some (.slice none 0 0), 1, 24) := by kernel_rfl
theorem info72 : (Try.prog.info? 72).map (fun i => (i.zero, i.size, i.bytes)) = some (some (.int .i32 0), 1, 4) := by kernel_rfl
-- the values' own types
def rd_L2 (xs : List (List Int)) (i : Int) : (List Int) := xs.getD i.toNat ([] : List Int)
theorem at_L2 {w : World} {A : Option Addr} {n : Nat} {xs : List (List Int)} (h : Kd.C (Kd.slice 72 (Kd.int .i32)) w A n xs) (i : Int) (h0 : 0 ≤ i) (h1 : i < n) : ∃ ad A0 c0, A = some ad ∧ w.cell? (ad.add i.toNat) = some (.slice A0 (rd_L2 xs i).length c0) ∧ (rd_L2 xs i).length ≤ c0 ∧ (Kd.int .i32).C w A0 (rd_L2 xs i).length (rd_L2 xs i) := by
 obtain ⟨ad, c, e, _, hK, hc0⟩ := Kd.C_get h ([] : List Int) i h0 h1
 have hc : ∀ j u, c[j]? = some u → w.cell? (ad.add (i.toNat * 1 + j)) = some u := hc0
 obtain ⟨A0, c0, rfl, l0, g0⟩ := hK
 exact ⟨ad, A0, c0, e, by have hq := hc 0 _ rfl; rwa [Nat.mul_one, Nat.add_zero] at hq, l0, g0⟩

def rd_L3 (xs : List (List (List Int))) (i : Int) : (List (List Int)) := xs.getD i.toNat ([] : List (List Int))
theorem at_L3 {w : World} {A : Option Addr} {n : Nat} {xs : List (List (List Int))} (h : Kd.C (Kd.slice 61 (Kd.slice 72 (Kd.int .i32))) w A n xs) (i : Int) (h0 : 0 ≤ i) (h1 : i < n) : ∃ ad A0 c0, A = some ad ∧ w.cell? (ad.add i.toNat) = some (.slice A0 (rd_L3 xs i).length c0) ∧ (rd_L3 xs i).length ≤ c0 ∧ (Kd.slice 72 (Kd.int .i32)).C w A0 (rd_L3 xs i).length (rd_L3 xs i) := by
 obtain ⟨ad, c, e, _, hK, hc0⟩ := Kd.C_get h ([] : List (List Int)) i h0 h1
 have hc : ∀ j u, c[j]? = some u → w.cell? (ad.add (i.toNat * 1 + j)) = some u := hc0
 obtain ⟨A0, c0, rfl, l0, g0⟩ := hK
 exact ⟨ad, A0, c0, e, by have hq := hc 0 _ rfl; rwa [Nat.mul_one, Nat.add_zero] at hq, l0, g0⟩

def rd_L4 (xs : List (List (List (List Int)))) (i : Int) : (List (List (List Int))) := xs.getD i.toNat ([] : List (List (List Int)))
theorem at_L4 {w : World} {A : Option Addr} {n : Nat} {xs : List (List (List (List Int)))} (h : Kd.C (Kd.slice 62 (Kd.slice 61 (Kd.slice 72 (Kd.int .i32)))) w A n xs) (i : Int) (h0 : 0 ≤ i) (h1 : i < n) : ∃ ad A0 c0, A = some ad ∧ w.cell? (ad.add i.toNat) = some (.slice A0 (rd_L4 xs i).length c0) ∧ (rd_L4 xs i).length ≤ c0 ∧ (Kd.slice 61 (Kd.slice 72 (Kd.int .i32))).C w A0 (rd_L4 xs i).length (rd_L4 xs i) := by
 obtain ⟨ad, c, e, _, hK, hc0⟩ := Kd.C_get h ([] : List (List (List Int))) i h0 h1
 have hc : ∀ j u, c[j]? = some u → w.cell? (ad.add (i.toNat * 1 + j)) = some u := hc0
 obtain ⟨A0, c0, rfl, l0, g0⟩ := hK
 exact ⟨ad, A0, c0, e, by have hq := hc 0 _ rfl; rwa [Nat.mul_one, Nat.add_zero] at hq, l0, g0⟩

def rd_L6 (xs : List (List Int)) (i : Int) : (List Int) := xs.getD i.toNat ([] : List Int)
theorem at_L6 {w : World} {A : Option Addr} {n : Nat} {xs : List (List Int)} (h : Kd.C (Kd.slice 3 (Kd.int .i64)) w A n xs) (i : Int) (h0 : 0 ≤ i) (h1 : i < n) : ∃ ad A0 c0, A = some ad ∧ w.cell? (ad.add i.toNat) = some (.slice A0 (rd_L6 xs i).length c0) ∧ (rd_L6 xs i).length ≤ c0 ∧ (Kd.int .i64).C w A0 (rd_L6 xs i).length (rd_L6 xs i) := by
 obtain ⟨ad, c, e, _, hK, hc0⟩ := Kd.C_get h ([] : List Int) i h0 h1
 have hc : ∀ j u, c[j]? = some u → w.cell? (ad.add (i.toNat * 1 + j)) = some u := hc0
 obtain ⟨A0, c0, rfl, l0, g0⟩ := hK
 exact ⟨ad, A0, c0, e, by have hq := hc 0 _ rfl; rwa [Nat.mul_one, Nat.add_zero] at hq, l0, g0⟩

/-! #### struct type 27 -/
structure S27 where
 f0 : (List (List (List Int)))
 f1 : (List (List (List Int)))
def z27 : S27 := ⟨([] : List (List (List Int))), ([] : List (List (List Int)))⟩
def k27 : Kd S27 := Kd.iso (Kd.pair (Kd.slice 62 (Kd.slice 61 (Kd.slice 72 (Kd.int .i32)))) (Kd.slice 62 (Kd.slice 61 (Kd.slice 72 (Kd.int .i32))))) (fun x : S27 => (x.f0, x.f1))
theorem k27_open {w : World} {x : S27} {cs : List Value} (h : k27.K w x cs) : ∃ A0 c0 A1 c1, cs = [.slice A0 x.f0.length c0, .slice A1 x.f1.length c1] ∧ x.f0.length ≤ c0 ∧ (Kd.slice 61 (Kd.slice 72 (Kd.int .i32))).C w A0 x.f0.length x.f0 ∧ x.f1.length ≤ c1 ∧ (Kd.slice 61 (Kd.slice 72 (Kd.int .i32))).C w A1 x.f1.length x.f1 := by
 obtain ⟨_, _, rfl, ⟨A0, c0, rfl, l0, g0⟩, ⟨A1, c1, rfl, l1, g1⟩⟩ := h
 exact ⟨A0, c0, A1, c1, rfl, l0, g0, l1, g1⟩
theorem k27_openM {w : World} {base : Nat} {ok : Nat → Prop} {x : S27} {cs : List Value} (h : k27.M w base ok x cs) : ∃ v0 v1, cs = [v0, v1] ∧ (Kd.slice 61 (Kd.slice 72 (Kd.int .i32))).R 62 w base ok v0 x.f0 ∧ (Kd.slice 61 (Kd.slice 72 (Kd.int .i32))).R 62 w base ok v1 x.f1 := by
 obtain ⟨_, _, rfl, ⟨v0, rfl, g0⟩, ⟨v1, rfl, g1⟩⟩ := h
 exact ⟨v0, v1, rfl, g0, g1⟩
theorem k27_mk (w : World) (x : S27) {A0 : Option Addr} {c0 : Nat} (l0 : x.f0.length ≤ c0) (g0 : (Kd.slice 61 (Kd.slice 72 (Kd.int .i32))).C w A0 x.f0.length x.f0) {A1 : Option Addr} {c1 : Nat} (l1 : x.f1.length ≤ c1) (g1 : (Kd.slice 61 (Kd.slice 72 (Kd.int .i32))).C w A1 x.f1.length x.f1) : k27.K w x [.slice A0 x.f0.length c0, .slice A1 x.f1.length c1] := ⟨[.slice A0 x.f0.length c0], [.slice A1 x.f1.length c1], rfl, ⟨A0, c0, rfl, l0, g0⟩, ⟨A1, c1, rfl, l1, g1⟩⟩
theorem k27_mkM (w : World) (base : Nat) (ok : Nat → Prop) (x : S27) {v0 : Value} (g0 : (Kd.slice 61 (Kd.slice 72 (Kd.int .i32))).R 62 w base ok v0 x.f0) {v1 : Value} (g1 : (Kd.slice 61 (Kd.slice 72 (Kd.int .i32))).R 62 w base ok v1 x.f1) : k27.M w base ok x [v0, v1] := ⟨[v0], [v1], rfl, ⟨v0, rfl, g0⟩, ⟨v1, rfl, g1⟩⟩
theorem k27_openF {W : World} {ok : Nat → Prop} {x : S27} {cs : List Value} (h : Kd.FK k27 W ok x cs) : ∃ A0 c0 A1 c1, cs = [.slice A0 x.f0.length c0, .slice A1 x.f1.length c1] ∧ x.f0.length ≤ c0 ∧ Kd.F (Kd.slice 61 (Kd.slice 72 (Kd.int .i32))) W ok A0 x.f0.length x.f0 ∧ x.f1.length ≤ c1 ∧ Kd.F (Kd.slice 61 (Kd.slice 72 (Kd.int .i32))) W ok A1 x.f1.length x.f1 := by
 obtain ⟨A0, c0, A1, c1, rfl, l0, _, l1, _⟩ := k27_open (Kd.FK_now h)
 exact ⟨A0, c0, A1, c1, rfl, l0, (fun W' hW => by obtain ⟨A0_, c0_, A1_, c1_, he, l0_, g0_, l1_, g1_⟩ := k27_open (h W' hW); injection (Option.some.inj (show some (Value.slice A0 x.f0.length c0) = some (Value.slice A0_ x.f0.length c0_) from congrArg (fun l => l[0]?) he)) with ha_ _ _; rw [ha_]; exact g0_), l1, (fun W' hW => by obtain ⟨A0_, c0_, A1_, c1_, he, l0_, g0_, l1_, g1_⟩ := k27_open (h W' hW); injection (Option.some.inj (show some (Value.slice A1 x.f1.length c1) = some (Value.slice A1_ x.f1.length c1_) from congrArg (fun l => l[1]?) he)) with ha_ _ _; rw [ha_]; exact g1_)⟩
theorem k27_mkF (W : World) (ok : Nat → Prop) (x : S27) {A0 : Option Addr} {c0 : Nat} (l0 : x.f0.length ≤ c0) (g0 : Kd.F (Kd.slice 61 (Kd.slice 72 (Kd.int .i32))) W ok A0 x.f0.length x.f0) {A1 : Option Addr} {c1 : Nat} (l1 : x.f1.length ≤ c1) (g1 : Kd.F (Kd.slice 61 (Kd.slice 72 (Kd.int .i32))) W ok A1 x.f1.length x.f1) : Kd.FK k27 W ok x [.slice A0 x.f0.length c0, .slice A1 x.f1.length c1] := fun W2 hW => k27_mk W2 x l0 (g0 W2 hW) l1 (g1 W2 hW)
def rd_T27 (xs : List S27) (i : Int) : S27 := xs.getD i.toNat z27
theorem at_T27 {w : World} {A : Option Addr} {n : Nat} {xs : List S27} (h : Kd.C k27 w A n xs) (i : Int) (h0 : 0 ≤ i) (h1 : i < n) : ∃ ad A0 c0 A1 c1, A = some ad ∧ w.cell? (ad.add (i.toNat * 2)) = some (.slice A0 (rd_T27 xs i).f0.length c0) ∧ w.cell? ⟨(ad.add (i.toNat * 2)).block, (ad.add (i.toNat * 2)).off + 1, none⟩ = some (.slice A1 (rd_T27 xs i).f1.length c1) ∧ (rd_T27 xs i).f0.length ≤ c0 ∧ (Kd.slice 61 (Kd.slice 72 (Kd.int .i32))).C w A0 (rd_T27 xs i).f0.length (rd_T27 xs i).f0 ∧ (rd_T27 xs i).f1.length ≤ c1 ∧ (Kd.slice 61 (Kd.slice 72 (Kd.int .i32))).C w A1 (rd_T27 xs i).f1.length (rd_T27 xs i).f1 := by
 obtain ⟨ad, c, e, _, hK, hc0⟩ := Kd.C_get h z27 i h0 h1
 have hc : ∀ j u, c[j]? = some u → w.cell? (ad.add (i.toNat * 2 + j)) = some u := hc0
 obtain ⟨A0, c0, A1, c1, rfl, l0, g0, l1, g1⟩ := k27_open hK
 exact ⟨ad, A0, c0, A1, c1, e, hc 0 _ rfl, by rw [← add_field _ _ 1 (by omega)]; exact hc 1 _ rfl, l0, g0, l1, g1⟩

/-! #### struct type 29 -/
structure S29 where
 f0 : (List Int)
 f1 : Int
 f2 : S27
def z29 : S29 := ⟨([] : List Int), (0 : Int), z27⟩
def k29 : Kd S29 := Kd.iso (Kd.pair (Kd.slice 3 (Kd.int .i64)) (Kd.pair (Kd.int .i64) k27)) (fun x : S29 => (x.f0, x.f1, x.f2))
theorem k29_open {w : World} {x : S29} {cs : List Value} (h : k29.K w x cs) : ∃ A0 c0 A2 c2 A3 c3, cs = [.slice A0 x.f0.length c0, .int .i64 x.f1, .slice A2 x.f2.f0.length c2, .slice A3 x.f2.f1.length c3] ∧ x.f0.length ≤ c0 ∧ (Kd.int .i64).C w A0 x.f0.length x.f0 ∧ x.f2.f0.length ≤ c2 ∧ (Kd.slice 61 (Kd.slice 72 (Kd.int .i32))).C w A2 x.f2.f0.length x.f2.f0 ∧ x.f2.f1.length ≤ c3 ∧ (Kd.slice 61 (Kd.slice 72 (Kd.int .i32))).C w A3 x.f2.f1.length x.f2.f1 := by
 obtain ⟨_, _, rfl, ⟨A0, c0, rfl, l0, g0⟩, ⟨_, _, rfl, rfl, s2⟩⟩ := h
 obtain ⟨A2, c2, A3, c3, rfl, l2, g2, l3, g3⟩ := k27_open s2
 exact ⟨A0, c0, A2, c2, A3, c3, rfl, l0, g0, l2, g2, l3, g3⟩
theorem k29_openM {w : World} {base : Nat} {ok : Nat → Prop} {x : S29} {cs : List Value} (h : k29.M w base ok x cs) : ∃ v0 v2 v3, cs = [v0, .int .i64 x.f1, v2, v3] ∧ (Kd.int .i64).R 3 w base ok v0 x.f0 ∧ (Kd.slice 61 (Kd.slice 72 (Kd.int .i32))).R 62 w base ok v2 x.f2.f0 ∧ (Kd.slice 61 (Kd.slice 72 (Kd.int .i32))).R 62 w base ok v3 x.f2.f1 := by
 obtain ⟨_, _, rfl, ⟨v0, rfl, g0⟩, ⟨_, _, rfl, rfl, s2⟩⟩ := h
 obtain ⟨v2, v3, rfl, g2, g3⟩ := k27_openM s2
 exact ⟨v0, v2, v3, rfl, g0, g2, g3⟩
theorem k29_mk (w : World) (x : S29) {A0 : Option Addr} {c0 : Nat} (l0 : x.f0.length ≤ c0) (g0 : (Kd.int .i64).C w A0 x.f0.length x.f0) {A2 : Option Addr} {c2 : Nat} (l2 : x.f2.f0.length ≤ c2) (g2 : (Kd.slice 61 (Kd.slice 72 (Kd.int .i32))).C w A2 x.f2.f0.length x.f2.f0) {A3 : Option Addr} {c3 : Nat} (l3 : x.f2.f1.length ≤ c3) (g3 : (Kd.slice 61 (Kd.slice 72 (Kd.int .i32))).C w A3 x.f2.f1.length x.f2.f1) : k29.K w x [.slice A0 x.f0.length c0, .int .i64 x.f1, .slice A2 x.f2.f0.length c2, .slice A3 x.f2.f1.length c3] := ⟨[.slice A0 x.f0.length c0], [.int .i64 x.f1, .slice A2 x.f2.f0.length c2, .slice A3 x.f2.f1.length c3], rfl, ⟨A0, c0, rfl, l0, g0⟩, ⟨[.int .i64 x.f1], [.slice A2 x.f2.f0.length c2, .slice A3 x.f2.f1.length c3], rfl, rfl, (k27_mk w x.f2 l2 g2 l3 g3)⟩⟩
theorem k29_mkM (w : World) (base : Nat) (ok : Nat → Prop) (x : S29) {v0 : Value} (g0 : (Kd.int .i64).R 3 w base ok v0 x.f0) {v2 : Value} (g2 : (Kd.slice 61 (Kd.slice 72 (Kd.int .i32))).R 62 w base ok v2 x.f2.f0) {v3 : Value} (g3 : (Kd.slice 61 (Kd.slice 72 (Kd.int .i32))).R 62 w base ok v3 x.f2.f1) : k29.M w base ok x [v0, .int .i64 x.f1, v2, v3] := ⟨[v0], [.int .i64 x.f1, v2, v3], rfl, ⟨v0, rfl, g0⟩, ⟨[.int .i64 x.f1], [v2, v3], rfl, rfl, (k27_mkM w base ok x.f2 g2 g3)⟩⟩
theorem k29_openF {W : World} {ok : Nat → Prop} {x : S29} {cs : List Value} (h : Kd.FK k29 W ok x cs) : ∃ A0 c0 A2 c2 A3 c3, cs = [.slice A0 x.f0.length c0, .int .i64 x.f1, .slice A2 x.f2.f0.length c2, .slice A3 x.f2.f1.length c3] ∧ x.f0.length ≤ c0 ∧ Kd.F (Kd.int .i64) W ok A0 x.f0.length x.f0 ∧ x.f2.f0.length ≤ c2 ∧ Kd.F (Kd.slice 61 (Kd.slice 72 (Kd.int .i32))) W ok A2 x.f2.f0.length x.f2.f0 ∧ x.f2.f1.length ≤ c3 ∧ Kd.F (Kd.slice 61 (Kd.slice 72 (Kd.int .i32))) W ok A3 x.f2.f1.length x.f2.f1 := by
 obtain ⟨A0, c0, A2, c2, A3, c3, rfl, l0, _, l2, _, l3, _⟩ := k29_open (Kd.FK_now h)
 exact ⟨A0, c0, A2, c2, A3, c3, rfl, l0, (fun W' hW => by obtain ⟨A0_, c0_, A2_, c2_, A3_, c3_, he, l0_, g0_, l2_, g2_, l3_, g3_⟩ := k29_open (h W' hW); injection (Option.some.inj (show some (Value.slice A0 x.f0.length c0) = some (Value.slice A0_ x.f0.length c0_) from congrArg (fun l => l[0]?) he)) with ha_ _ _; rw [ha_]; exact g0_), l2, (fun W' hW => by obtain ⟨A0_, c0_, A2_, c2_, A3_, c3_, he, l0_, g0_, l2_, g2_, l3_, g3_⟩ := k29_open (h W' hW); injection (Option.some.inj (show some (Value.slice A2 x.f2.f0.length c2) = some (Value.slice A2_ x.f2.f0.length c2_) from congrArg (fun l => l[2]?) he)) with ha_ _ _; rw [ha_]; exact g2_), l3, (fun W' hW => by obtain ⟨A0_, c0_, A2_, c2_, A3_, c3_, he, l0_, g0_, l2_, g2_, l3_, g3_⟩ := k29_open (h W' hW); injection (Option.some.inj (show some (Value.slice A3 x.f2.f1.length c3) = some (Value.slice A3_ x.f2.f1.length c3_) from congrArg (fun l => l[3]?) he)) with ha_ _ _; rw [ha_]; exact g3_)⟩
theorem k29_mkF (W : World) (ok : Nat → Prop) (x : S29) {A0 : Option Addr} {c0 : Nat} (l0 : x.f0.length ≤ c0) (g0 : Kd.F (Kd.int .i64) W ok A0 x.f0.length x.f0) {A2 : Option Addr} {c2 : Nat} (l2 : x.f2.f0.length ≤ c2) (g2 : Kd.F (Kd.slice 61 (Kd.slice 72 (Kd.int .i32))) W ok A2 x.f2.f0.length x.f2.f0) {A3 : Option Addr} {c3 : Nat} (l3 : x.f2.f1.length ≤ c3) (g3 : Kd.F (Kd.slice 61 (Kd.slice 72 (Kd.int .i32))) W ok A3 x.f2.f1.length x.f2.f1) : Kd.FK k29 W ok x [.slice A0 x.f0.length c0, .int .i64 x.f1, .slice A2 x.f2.f0.length c2, .slice A3 x.f2.f1.length c3] := fun W2 hW => k29_mk W2 x l0 (g0 W2 hW) l2 (g2 W2 hW) l3 (g3 W2 hW)
def rd_T29 (xs : List S29) (i : Int) : S29 := xs.getD i.toNat z29
theorem at_T29 {w : World} {A : Option Addr} {n : Nat} {xs : List S29} (h : Kd.C k29 w A n xs) (i : Int) (h0 : 0 ≤ i) (h1 : i < n) : ∃ ad A0 c0 A2 c2 A3 c3, A = some ad ∧ w.cell? (ad.add (i.toNat * 4)) = some (.slice A0 (rd_T29 xs i).f0.length c0) ∧ w.cell? ⟨(ad.add (i.toNat * 4)).block, (ad.add (i.toNat * 4)).off + 1, none⟩ = some (.int .i64 (rd_T29 xs i).f1) ∧ w.cell? ⟨(ad.add (i.toNat * 4)).block, (ad.add (i.toNat * 4)).off + 2, none⟩ = some (.slice A2 (rd_T29 xs i).f2.f0.length c2) ∧ w.cell? ⟨(ad.add (i.toNat * 4)).block, (ad.add (i.toNat * 4)).off + 3, none⟩ = some (.slice A3 (rd_T29 xs i).f2.f1.length c3) ∧ (rd_T29 xs i).f0.length ≤ c0 ∧ (Kd.int .i64).C w A0 (rd_T29 xs i).f0.length (rd_T29 xs i).f0 ∧ (rd_T29 xs i).f2.f0.length ≤ c2 ∧ (Kd.slice 61 (Kd.slice 72 (Kd.int .i32))).C w A2 (rd_T29 xs i).f2.f0.length (rd_T29 xs i).f2.f0 ∧ (rd_T29 xs i).f2.f1.length ≤ c3 ∧ (Kd.slice 61 (Kd.slice 72 (Kd.int .i32))).C w A3 (rd_T29 xs i).f2.f1.length (rd_T29 xs i).f2.f1 := by
 obtain ⟨ad, c, e, _, hK, hc0⟩ := Kd.C_get h z29 i h0 h1
 have hc : ∀ j u, c[j]? = some u → w.cell? (ad.add (i.toNat * 4 + j)) = some u := hc0
 obtain ⟨A0, c0, A2, c2, A3, c3, rfl, l0, g0, l2, g2, l3, g3⟩ := k29_open hK
 exact ⟨ad, A0, c0, A2, c2, A3, c3, e, hc 0 _ rfl, by rw [← add_field _ _ 1 (by omega)]; exact hc 1 _ rfl, by rw [← add_field _ _ 2 (by omega)]; exact hc 2 _ rfl, by rw [← add_field _ _ 3 (by omega)]; exact hc 3 _ rfl, l0, g0, l2, g2, l3, g3⟩

end Go.Proofs.Ytepbebelbcbciaa.Q
