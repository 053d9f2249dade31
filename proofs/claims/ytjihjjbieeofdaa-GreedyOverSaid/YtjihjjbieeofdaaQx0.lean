/- Functions of the program as plain Lean functions, each with a proof that the program's call comes to what it says; and rows of statements over them. No condition but those that the theorems name. Written by a program of this session (myprint.py, over the kit's print with patches of its own). -/
import Derived.Test.YtjihjjbieeofdaaProg
import Derived.Lib.SliceRun
import Derived.Below
import Derived.Deep.Draws
import Derived.Deep.AppendLies
import Derived.Maps.AppendAt
import Derived.OwnWalk
import Derived.Laws.BytesArg
import Derived.Laws.MakeOwn
import Derived.Laws.OwnMore
import Derived.Deep.OwnRows
import Derived.Tactics
import Derived.Lib.ConvBytes
import Derived.Laws.Slices
import Derived.WalkKit
import Derived.KernelRfl
import Derived.RowKit3
import Derived.Deep.LoopGhost
import Derived.Deep.QuietTactic
import Derived.BigQuiet
import Derived.WideLaws
import Derived.Deep.DeepCutAuto
import Derived.Deep.CutBlock
import Derived.Deep.RegionHeld3
import Derived.Laws.Rows
import Derived.Lib.AppendStr
import Derived.ArgAppend
import Derived.Laws.IdiomCopy
import Derived.OrdersHeld
import Derived.Laws.BitsLemmas
import Derived.RowKit
import Derived.Test.YtjihjjbieeofdaaWWords
import Derived.Test.YtjihjjbieeofdaaWLast
import Derived.Test.YtjihjjbieeofdaaWTab
import Derived.Test.YtjihjjbieeofdaaWFour
import Derived.Test.YtjihjjbieeofdaaWQPut
import Derived.Test.YtjihjjbieeofdaaWApart
import Derived.Test.YtjihjjbieeofdaaWArr
import Derived.Test.YtjihjjbieeofdaaWZeros
import Derived.Test.YtjihjjbieeofdaaWFoot
import Derived.Test.YtjihjjbieeofdaaWKept
import Derived.Test.YtjihjjbieeofdaaWShare
import Derived.Test.YtjihjjbieeofdaaWN
import Derived.Test.YtjihjjbieeofdaaWFootNe
import Derived.Test.YtjihjjbieeofdaaWAt
import Derived.Test.YtjihjjbieeofdaaWEqStruct
import Derived.Test.YtjihjjbieeofdaaWRepsOne
import Derived.Test.YtjihjjbieeofdaaWInv
import Derived.Test.YtjihjjbieeofdaaWInvWords
import Derived.Test.YtjihjjbieeofdaaWGuard
import Derived.Test.YtjihjjbieeofdaaWNEv
import Derived.Test.YtjihjjbieeofdaaWMore
import Derived.Test.YtjihjjbieeofdaaXWords
namespace Go.Proofs.Ytjihjjbieeofdaa.Q
open Go.RowKit Go.Proofs.YtjihjjbieeofdaaW.PrintWords Go.Proofs.YtjihjjbieeofdaaW.PrintLast Go.Proofs.YtjihjjbieeofdaaW.PrintMore
attribute [local go_sem] max2_int min2_int max_two min_two max_three min_three max_four min_four   -- for this text's walks alone
set_option linter.unusedVariables false
set_option linter.unusedSimpArgs false



def errW : Option Int → Value
  | none => .nilIface
  | some c => .iface 0 (.int .i64 c)
theorem errW_none : errW none = .nilIface := rfl
theorem errW_some (c : Int) : errW (some c) = .iface 0 (.int .i64 c) := rfl

theorem info3 : (Try.prog.info? 3).map (fun i => (i.zero, i.size, i.bytes)) = some (some (.int .i64 0), 1, 8) := by kernel_rfl
theorem info51 : (Try.prog.info? 51).map (fun i => (i.zero, i.size, i.bytes)) = some (some (.slice none 0 0), 1, 24) := by kernel_rfl
theorem info83 : (Try.prog.info? 83).map (fun i => (i.zero, i.size, i.bytes)) = some (some (.int .i32 0), 1, 4) := by kernel_rfl
theorem info97 : (Try.prog.info? 97).map (fun i => (i.zero, i.size, i.bytes)) = some (some (.slice none 0 0), 1, 24) := by kernel_rfl
-- the values' own types
def rd_L2 (xs : List (List Int)) (i : Int) : (List Int) := xs.getD i.toNat ([] : List Int)
theorem at_L2 {w : World} {A : Option Addr} {n : Nat} {xs : List (List Int)} (h : Kd.C (Kd.slice 83 (Kd.int .i32)) w A n xs) (i : Int) (h0 : 0 ≤ i) (h1 : i < n) : ∃ ad A0 c0, A = some ad ∧ w.cell? (ad.add i.toNat) = some (.slice A0 (rd_L2 xs i).length c0) ∧ (rd_L2 xs i).length ≤ c0 ∧ (Kd.int .i32).C w A0 (rd_L2 xs i).length (rd_L2 xs i) := by
  obtain ⟨ad, c, e, _, hK, hc0⟩ := Kd.C_get h ([] : List Int) i h0 h1
  have hc : ∀ j u, c[j]? = some u → w.cell? (ad.add (i.toNat * 1 + j)) = some u := hc0
  obtain ⟨A0, c0, rfl, l0, g0⟩ := hK
  exact ⟨ad, A0, c0, e, by have hq := hc 0 _ rfl; rwa [Nat.mul_one, Nat.add_zero] at hq, l0, g0⟩

/-! #### struct type 60 -/
structure S60 where
  f0 : Int
  f1 : Int
  f2 : (List Int)
def z60 : S60 := ⟨(0 : Int), (0 : Int), ([] : List Int)⟩
def k60 : Kd S60 := Kd.iso (Kd.pair (Kd.int .i64) (Kd.pair (Kd.int .i64) (Kd.slice 83 (Kd.int .i32)))) (fun x : S60 => (x.f0, x.f1, x.f2))
theorem k60_heap : Kd.Heap k60 := Kd.heap_iso _ (Kd.heap_pair (Kd.heap_int .i64) (Kd.heap_pair (Kd.heap_int .i64) (Kd.heap_slice 83 (Kd.heap_int .i32))))
theorem k60_open {w : World} {x : S60} {cs : List Value} (h : k60.K w x cs) : ∃ A2 c2, cs = [.int .i64 x.f0, .int .i64 x.f1, .slice A2 x.f2.length c2] ∧ x.f2.length ≤ c2 ∧ (Kd.int .i32).C w A2 x.f2.length x.f2 := by
  obtain ⟨_, _, rfl, rfl, ⟨_, _, rfl, rfl, ⟨A2, c2, rfl, l2, g2⟩⟩⟩ := h
  exact ⟨A2, c2, rfl, l2, g2⟩
theorem k60_openM {w : World} {base : Nat} {ok : Nat → Prop} {x : S60} {cs : List Value} (h : k60.M w base ok x cs) : ∃ v2, cs = [.int .i64 x.f0, .int .i64 x.f1, v2] ∧ (Kd.int .i32).R 83 w base ok v2 x.f2 := by
  obtain ⟨_, _, rfl, rfl, ⟨_, _, rfl, rfl, ⟨v2, rfl, g2⟩⟩⟩ := h
  exact ⟨v2, rfl, g2⟩
theorem k60_mk (w : World) (x : S60) {A2 : Option Addr} {c2 : Nat} (l2 : x.f2.length ≤ c2) (g2 : (Kd.int .i32).C w A2 x.f2.length x.f2) : k60.K w x [.int .i64 x.f0, .int .i64 x.f1, .slice A2 x.f2.length c2] := ⟨[.int .i64 x.f0], [.int .i64 x.f1, .slice A2 x.f2.length c2], rfl, rfl, ⟨[.int .i64 x.f1], [.slice A2 x.f2.length c2], rfl, rfl, ⟨A2, c2, rfl, l2, g2⟩⟩⟩
theorem k60_mkM (w : World) (base : Nat) (ok : Nat → Prop) (x : S60) {v2 : Value} (g2 : (Kd.int .i32).R 83 w base ok v2 x.f2) : k60.M w base ok x [.int .i64 x.f0, .int .i64 x.f1, v2] := ⟨[.int .i64 x.f0], [.int .i64 x.f1, v2], rfl, rfl, ⟨[.int .i64 x.f1], [v2], rfl, rfl, ⟨v2, rfl, g2⟩⟩⟩
theorem k60_openF {W : World} {ok : Nat → Prop} {x : S60} {cs : List Value} (h : Kd.FK k60 W ok x cs) : ∃ A2 c2, cs = [.int .i64 x.f0, .int .i64 x.f1, .slice A2 x.f2.length c2] ∧ x.f2.length ≤ c2 ∧ Kd.F (Kd.int .i32) W ok A2 x.f2.length x.f2 := by
  obtain ⟨A2, c2, rfl, l2, _⟩ := k60_open (Kd.FK_now h)
  exact ⟨A2, c2, rfl, l2, (fun W' hW => by obtain ⟨A2_, c2_, he, l2_, g2_⟩ := k60_open (h W' hW); injection (Option.some.inj (show some (Value.slice A2 x.f2.length c2) = some (Value.slice A2_ x.f2.length c2_) from congrArg (fun l => l[2]?) he)) with ha_ _ _; rw [ha_]; exact g2_)⟩
theorem k60_mkF (W : World) (ok : Nat → Prop) (x : S60) {A2 : Option Addr} {c2 : Nat} (l2 : x.f2.length ≤ c2) (g2 : Kd.F (Kd.int .i32) W ok A2 x.f2.length x.f2) : Kd.FK k60 W ok x [.int .i64 x.f0, .int .i64 x.f1, .slice A2 x.f2.length c2] := fun W2 hW => k60_mk W2 x l2 (g2 W2 hW)
def rd_T60 (xs : List S60) (i : Int) : S60 := xs.getD i.toNat z60
theorem at_T60 {w : World} {A : Option Addr} {n : Nat} {xs : List S60} (h : Kd.C k60 w A n xs) (i : Int) (h0 : 0 ≤ i) (h1 : i < n) : ∃ ad A2 c2, A = some ad ∧ w.cell? (ad.add (i.toNat * 3)) = some (.int .i64 (rd_T60 xs i).f0) ∧ w.cell? ⟨(ad.add (i.toNat * 3)).block, (ad.add (i.toNat * 3)).off + 1, none⟩ = some (.int .i64 (rd_T60 xs i).f1) ∧ w.cell? ⟨(ad.add (i.toNat * 3)).block, (ad.add (i.toNat * 3)).off + 2, none⟩ = some (.slice A2 (rd_T60 xs i).f2.length c2) ∧ (rd_T60 xs i).f2.length ≤ c2 ∧ (Kd.int .i32).C w A2 (rd_T60 xs i).f2.length (rd_T60 xs i).f2 := by
  obtain ⟨ad, c, e, _, hK, hc0⟩ := Kd.C_get h z60 i h0 h1
  have hc : ∀ j u, c[j]? = some u → w.cell? (ad.add (i.toNat * 3 + j)) = some u := hc0
  obtain ⟨A2, c2, rfl, l2, g2⟩ := k60_open hK
  exact ⟨ad, A2, c2, e, hc 0 _ rfl, by rw [← add_field _ _ 1 (by omega)]; exact hc 1 _ rfl, by rw [← add_field _ _ 2 (by omega)]; exact hc 2 _ rfl, l2, g2⟩

/-! #### struct type 108 -/
structure S108 where
  f0 : (List Int)
  f1 : S60
  f2 : S60
  f3 : S60
  f4 : S60
  f5 : (List Int)
  f6 : S60
  f7 : S60
def z108 : S108 := ⟨([] : List Int), z60, z60, z60, z60, ([] : List Int), z60, z60⟩
def k108 : Kd S108 := Kd.iso (Kd.pair (Kd.slice 83 (Kd.int .i32)) (Kd.pair k60 (Kd.pair k60 (Kd.pair k60 (Kd.pair k60 (Kd.pair (Kd.slice 83 (Kd.int .i32)) (Kd.pair k60 k60))))))) (fun x : S108 => (x.f0, x.f1, x.f2, x.f3, x.f4, x.f5, x.f6, x.f7))
theorem k108_heap : Kd.Heap k108 := Kd.heap_iso _ (Kd.heap_pair (Kd.heap_slice 83 (Kd.heap_int .i32)) (Kd.heap_pair k60_heap (Kd.heap_pair k60_heap (Kd.heap_pair k60_heap (Kd.heap_pair k60_heap (Kd.heap_pair (Kd.heap_slice 83 (Kd.heap_int .i32)) (Kd.heap_pair k60_heap k60_heap)))))))
theorem k108_open {w : World} {x : S108} {cs : List Value} (h : k108.K w x cs) : ∃ A0 c0 A3 c3 A6 c6 A9 c9 A12 c12 A13 c13 A16 c16 A19 c19, cs = [.slice A0 x.f0.length c0, .int .i64 x.f1.f0, .int .i64 x.f1.f1, .slice A3 x.f1.f2.length c3, .int .i64 x.f2.f0, .int .i64 x.f2.f1, .slice A6 x.f2.f2.length c6, .int .i64 x.f3.f0, .int .i64 x.f3.f1, .slice A9 x.f3.f2.length c9, .int .i64 x.f4.f0, .int .i64 x.f4.f1, .slice A12 x.f4.f2.length c12, .slice A13 x.f5.length c13, .int .i64 x.f6.f0, .int .i64 x.f6.f1, .slice A16 x.f6.f2.length c16, .int .i64 x.f7.f0, .int .i64 x.f7.f1, .slice A19 x.f7.f2.length c19] ∧ x.f0.length ≤ c0 ∧ (Kd.int .i32).C w A0 x.f0.length x.f0 ∧ x.f1.f2.length ≤ c3 ∧ (Kd.int .i32).C w A3 x.f1.f2.length x.f1.f2 ∧ x.f2.f2.length ≤ c6 ∧ (Kd.int .i32).C w A6 x.f2.f2.length x.f2.f2 ∧ x.f3.f2.length ≤ c9 ∧ (Kd.int .i32).C w A9 x.f3.f2.length x.f3.f2 ∧ x.f4.f2.length ≤ c12 ∧ (Kd.int .i32).C w A12 x.f4.f2.length x.f4.f2 ∧ x.f5.length ≤ c13 ∧ (Kd.int .i32).C w A13 x.f5.length x.f5 ∧ x.f6.f2.length ≤ c16 ∧ (Kd.int .i32).C w A16 x.f6.f2.length x.f6.f2 ∧ x.f7.f2.length ≤ c19 ∧ (Kd.int .i32).C w A19 x.f7.f2.length x.f7.f2 := by
  obtain ⟨_, _, rfl, ⟨A0, c0, rfl, l0, g0⟩, ⟨_, _, rfl, s1, ⟨_, _, rfl, s4, ⟨_, _, rfl, s7, ⟨_, _, rfl, s10, ⟨_, _, rfl, ⟨A13, c13, rfl, l13, g13⟩, ⟨_, _, rfl, s14, s17⟩⟩⟩⟩⟩⟩⟩ := h
  obtain ⟨A3, c3, rfl, l3, g3⟩ := k60_open s1
  obtain ⟨A6, c6, rfl, l6, g6⟩ := k60_open s4
  obtain ⟨A9, c9, rfl, l9, g9⟩ := k60_open s7
  obtain ⟨A12, c12, rfl, l12, g12⟩ := k60_open s10
  obtain ⟨A16, c16, rfl, l16, g16⟩ := k60_open s14
  obtain ⟨A19, c19, rfl, l19, g19⟩ := k60_open s17
  exact ⟨A0, c0, A3, c3, A6, c6, A9, c9, A12, c12, A13, c13, A16, c16, A19, c19, rfl, l0, g0, l3, g3, l6, g6, l9, g9, l12, g12, l13, g13, l16, g16, l19, g19⟩
theorem k108_openM {w : World} {base : Nat} {ok : Nat → Prop} {x : S108} {cs : List Value} (h : k108.M w base ok x cs) : ∃ v0 v3 v6 v9 v12 v13 v16 v19, cs = [v0, .int .i64 x.f1.f0, .int .i64 x.f1.f1, v3, .int .i64 x.f2.f0, .int .i64 x.f2.f1, v6, .int .i64 x.f3.f0, .int .i64 x.f3.f1, v9, .int .i64 x.f4.f0, .int .i64 x.f4.f1, v12, v13, .int .i64 x.f6.f0, .int .i64 x.f6.f1, v16, .int .i64 x.f7.f0, .int .i64 x.f7.f1, v19] ∧ (Kd.int .i32).R 83 w base ok v0 x.f0 ∧ (Kd.int .i32).R 83 w base ok v3 x.f1.f2 ∧ (Kd.int .i32).R 83 w base ok v6 x.f2.f2 ∧ (Kd.int .i32).R 83 w base ok v9 x.f3.f2 ∧ (Kd.int .i32).R 83 w base ok v12 x.f4.f2 ∧ (Kd.int .i32).R 83 w base ok v13 x.f5 ∧ (Kd.int .i32).R 83 w base ok v16 x.f6.f2 ∧ (Kd.int .i32).R 83 w base ok v19 x.f7.f2 := by
  obtain ⟨_, _, rfl, ⟨v0, rfl, g0⟩, ⟨_, _, rfl, s1, ⟨_, _, rfl, s4, ⟨_, _, rfl, s7, ⟨_, _, rfl, s10, ⟨_, _, rfl, ⟨v13, rfl, g13⟩, ⟨_, _, rfl, s14, s17⟩⟩⟩⟩⟩⟩⟩ := h
  obtain ⟨v3, rfl, g3⟩ := k60_openM s1
  obtain ⟨v6, rfl, g6⟩ := k60_openM s4
  obtain ⟨v9, rfl, g9⟩ := k60_openM s7
  obtain ⟨v12, rfl, g12⟩ := k60_openM s10
  obtain ⟨v16, rfl, g16⟩ := k60_openM s14
  obtain ⟨v19, rfl, g19⟩ := k60_openM s17
  exact ⟨v0, v3, v6, v9, v12, v13, v16, v19, rfl, g0, g3, g6, g9, g12, g13, g16, g19⟩
theorem k108_mk (w : World) (x : S108) {A0 : Option Addr} {c0 : Nat} (l0 : x.f0.length ≤ c0) (g0 : (Kd.int .i32).C w A0 x.f0.length x.f0) {A3 : Option Addr} {c3 : Nat} (l3 : x.f1.f2.length ≤ c3) (g3 : (Kd.int .i32).C w A3 x.f1.f2.length x.f1.f2) {A6 : Option Addr} {c6 : Nat} (l6 : x.f2.f2.length ≤ c6) (g6 : (Kd.int .i32).C w A6 x.f2.f2.length x.f2.f2) {A9 : Option Addr} {c9 : Nat} (l9 : x.f3.f2.length ≤ c9) (g9 : (Kd.int .i32).C w A9 x.f3.f2.length x.f3.f2) {A12 : Option Addr} {c12 : Nat} (l12 : x.f4.f2.length ≤ c12) (g12 : (Kd.int .i32).C w A12 x.f4.f2.length x.f4.f2) {A13 : Option Addr} {c13 : Nat} (l13 : x.f5.length ≤ c13) (g13 : (Kd.int .i32).C w A13 x.f5.length x.f5) {A16 : Option Addr} {c16 : Nat} (l16 : x.f6.f2.length ≤ c16) (g16 : (Kd.int .i32).C w A16 x.f6.f2.length x.f6.f2) {A19 : Option Addr} {c19 : Nat} (l19 : x.f7.f2.length ≤ c19) (g19 : (Kd.int .i32).C w A19 x.f7.f2.length x.f7.f2) : k108.K w x [.slice A0 x.f0.length c0, .int .i64 x.f1.f0, .int .i64 x.f1.f1, .slice A3 x.f1.f2.length c3, .int .i64 x.f2.f0, .int .i64 x.f2.f1, .slice A6 x.f2.f2.length c6, .int .i64 x.f3.f0, .int .i64 x.f3.f1, .slice A9 x.f3.f2.length c9, .int .i64 x.f4.f0, .int .i64 x.f4.f1, .slice A12 x.f4.f2.length c12, .slice A13 x.f5.length c13, .int .i64 x.f6.f0, .int .i64 x.f6.f1, .slice A16 x.f6.f2.length c16, .int .i64 x.f7.f0, .int .i64 x.f7.f1, .slice A19 x.f7.f2.length c19] := ⟨[.slice A0 x.f0.length c0], [.int .i64 x.f1.f0, .int .i64 x.f1.f1, .slice A3 x.f1.f2.length c3, .int .i64 x.f2.f0, .int .i64 x.f2.f1, .slice A6 x.f2.f2.length c6, .int .i64 x.f3.f0, .int .i64 x.f3.f1, .slice A9 x.f3.f2.length c9, .int .i64 x.f4.f0, .int .i64 x.f4.f1, .slice A12 x.f4.f2.length c12, .slice A13 x.f5.length c13, .int .i64 x.f6.f0, .int .i64 x.f6.f1, .slice A16 x.f6.f2.length c16, .int .i64 x.f7.f0, .int .i64 x.f7.f1, .slice A19 x.f7.f2.length c19], rfl, ⟨A0, c0, rfl, l0, g0⟩, ⟨[.int .i64 x.f1.f0, .int .i64 x.f1.f1, .slice A3 x.f1.f2.length c3], [.int .i64 x.f2.f0, .int .i64 x.f2.f1, .slice A6 x.f2.f2.length c6, .int .i64 x.f3.f0, .int .i64 x.f3.f1, .slice A9 x.f3.f2.length c9, .int .i64 x.f4.f0, .int .i64 x.f4.f1, .slice A12 x.f4.f2.length c12, .slice A13 x.f5.length c13, .int .i64 x.f6.f0, .int .i64 x.f6.f1, .slice A16 x.f6.f2.length c16, .int .i64 x.f7.f0, .int .i64 x.f7.f1, .slice A19 x.f7.f2.length c19], rfl, (k60_mk w x.f1 l3 g3), ⟨[.int .i64 x.f2.f0, .int .i64 x.f2.f1, .slice A6 x.f2.f2.length c6], [.int .i64 x.f3.f0, .int .i64 x.f3.f1, .slice A9 x.f3.f2.length c9, .int .i64 x.f4.f0, .int .i64 x.f4.f1, .slice A12 x.f4.f2.length c12, .slice A13 x.f5.length c13, .int .i64 x.f6.f0, .int .i64 x.f6.f1, .slice A16 x.f6.f2.length c16, .int .i64 x.f7.f0, .int .i64 x.f7.f1, .slice A19 x.f7.f2.length c19], rfl, (k60_mk w x.f2 l6 g6), ⟨[.int .i64 x.f3.f0, .int .i64 x.f3.f1, .slice A9 x.f3.f2.length c9], [.int .i64 x.f4.f0, .int .i64 x.f4.f1, .slice A12 x.f4.f2.length c12, .slice A13 x.f5.length c13, .int .i64 x.f6.f0, .int .i64 x.f6.f1, .slice A16 x.f6.f2.length c16, .int .i64 x.f7.f0, .int .i64 x.f7.f1, .slice A19 x.f7.f2.length c19], rfl, (k60_mk w x.f3 l9 g9), ⟨[.int .i64 x.f4.f0, .int .i64 x.f4.f1, .slice A12 x.f4.f2.length c12], [.slice A13 x.f5.length c13, .int .i64 x.f6.f0, .int .i64 x.f6.f1, .slice A16 x.f6.f2.length c16, .int .i64 x.f7.f0, .int .i64 x.f7.f1, .slice A19 x.f7.f2.length c19], rfl, (k60_mk w x.f4 l12 g12), ⟨[.slice A13 x.f5.length c13], [.int .i64 x.f6.f0, .int .i64 x.f6.f1, .slice A16 x.f6.f2.length c16, .int .i64 x.f7.f0, .int .i64 x.f7.f1, .slice A19 x.f7.f2.length c19], rfl, ⟨A13, c13, rfl, l13, g13⟩, ⟨[.int .i64 x.f6.f0, .int .i64 x.f6.f1, .slice A16 x.f6.f2.length c16], [.int .i64 x.f7.f0, .int .i64 x.f7.f1, .slice A19 x.f7.f2.length c19], rfl, (k60_mk w x.f6 l16 g16), (k60_mk w x.f7 l19 g19)⟩⟩⟩⟩⟩⟩⟩
theorem k108_mkM (w : World) (base : Nat) (ok : Nat → Prop) (x : S108) {v0 : Value} (g0 : (Kd.int .i32).R 83 w base ok v0 x.f0) {v3 : Value} (g3 : (Kd.int .i32).R 83 w base ok v3 x.f1.f2) {v6 : Value} (g6 : (Kd.int .i32).R 83 w base ok v6 x.f2.f2) {v9 : Value} (g9 : (Kd.int .i32).R 83 w base ok v9 x.f3.f2) {v12 : Value} (g12 : (Kd.int .i32).R 83 w base ok v12 x.f4.f2) {v13 : Value} (g13 : (Kd.int .i32).R 83 w base ok v13 x.f5) {v16 : Value} (g16 : (Kd.int .i32).R 83 w base ok v16 x.f6.f2) {v19 : Value} (g19 : (Kd.int .i32).R 83 w base ok v19 x.f7.f2) : k108.M w base ok x [v0, .int .i64 x.f1.f0, .int .i64 x.f1.f1, v3, .int .i64 x.f2.f0, .int .i64 x.f2.f1, v6, .int .i64 x.f3.f0, .int .i64 x.f3.f1, v9, .int .i64 x.f4.f0, .int .i64 x.f4.f1, v12, v13, .int .i64 x.f6.f0, .int .i64 x.f6.f1, v16, .int .i64 x.f7.f0, .int .i64 x.f7.f1, v19] := ⟨[v0], [.int .i64 x.f1.f0, .int .i64 x.f1.f1, v3, .int .i64 x.f2.f0, .int .i64 x.f2.f1, v6, .int .i64 x.f3.f0, .int .i64 x.f3.f1, v9, .int .i64 x.f4.f0, .int .i64 x.f4.f1, v12, v13, .int .i64 x.f6.f0, .int .i64 x.f6.f1, v16, .int .i64 x.f7.f0, .int .i64 x.f7.f1, v19], rfl, ⟨v0, rfl, g0⟩, ⟨[.int .i64 x.f1.f0, .int .i64 x.f1.f1, v3], [.int .i64 x.f2.f0, .int .i64 x.f2.f1, v6, .int .i64 x.f3.f0, .int .i64 x.f3.f1, v9, .int .i64 x.f4.f0, .int .i64 x.f4.f1, v12, v13, .int .i64 x.f6.f0, .int .i64 x.f6.f1, v16, .int .i64 x.f7.f0, .int .i64 x.f7.f1, v19], rfl, (k60_mkM w base ok x.f1 g3), ⟨[.int .i64 x.f2.f0, .int .i64 x.f2.f1, v6], [.int .i64 x.f3.f0, .int .i64 x.f3.f1, v9, .int .i64 x.f4.f0, .int .i64 x.f4.f1, v12, v13, .int .i64 x.f6.f0, .int .i64 x.f6.f1, v16, .int .i64 x.f7.f0, .int .i64 x.f7.f1, v19], rfl, (k60_mkM w base ok x.f2 g6), ⟨[.int .i64 x.f3.f0, .int .i64 x.f3.f1, v9], [.int .i64 x.f4.f0, .int .i64 x.f4.f1, v12, v13, .int .i64 x.f6.f0, .int .i64 x.f6.f1, v16, .int .i64 x.f7.f0, .int .i64 x.f7.f1, v19], rfl, (k60_mkM w base ok x.f3 g9), ⟨[.int .i64 x.f4.f0, .int .i64 x.f4.f1, v12], [v13, .int .i64 x.f6.f0, .int .i64 x.f6.f1, v16, .int .i64 x.f7.f0, .int .i64 x.f7.f1, v19], rfl, (k60_mkM w base ok x.f4 g12), ⟨[v13], [.int .i64 x.f6.f0, .int .i64 x.f6.f1, v16, .int .i64 x.f7.f0, .int .i64 x.f7.f1, v19], rfl, ⟨v13, rfl, g13⟩, ⟨[.int .i64 x.f6.f0, .int .i64 x.f6.f1, v16], [.int .i64 x.f7.f0, .int .i64 x.f7.f1, v19], rfl, (k60_mkM w base ok x.f6 g16), (k60_mkM w base ok x.f7 g19)⟩⟩⟩⟩⟩⟩⟩
theorem k108_openF {W : World} {ok : Nat → Prop} {x : S108} {cs : List Value} (h : Kd.FK k108 W ok x cs) : ∃ A0 c0 A3 c3 A6 c6 A9 c9 A12 c12 A13 c13 A16 c16 A19 c19, cs = [.slice A0 x.f0.length c0, .int .i64 x.f1.f0, .int .i64 x.f1.f1, .slice A3 x.f1.f2.length c3, .int .i64 x.f2.f0, .int .i64 x.f2.f1, .slice A6 x.f2.f2.length c6, .int .i64 x.f3.f0, .int .i64 x.f3.f1, .slice A9 x.f3.f2.length c9, .int .i64 x.f4.f0, .int .i64 x.f4.f1, .slice A12 x.f4.f2.length c12, .slice A13 x.f5.length c13, .int .i64 x.f6.f0, .int .i64 x.f6.f1, .slice A16 x.f6.f2.length c16, .int .i64 x.f7.f0, .int .i64 x.f7.f1, .slice A19 x.f7.f2.length c19] ∧ x.f0.length ≤ c0 ∧ Kd.F (Kd.int .i32) W ok A0 x.f0.length x.f0 ∧ x.f1.f2.length ≤ c3 ∧ Kd.F (Kd.int .i32) W ok A3 x.f1.f2.length x.f1.f2 ∧ x.f2.f2.length ≤ c6 ∧ Kd.F (Kd.int .i32) W ok A6 x.f2.f2.length x.f2.f2 ∧ x.f3.f2.length ≤ c9 ∧ Kd.F (Kd.int .i32) W ok A9 x.f3.f2.length x.f3.f2 ∧ x.f4.f2.length ≤ c12 ∧ Kd.F (Kd.int .i32) W ok A12 x.f4.f2.length x.f4.f2 ∧ x.f5.length ≤ c13 ∧ Kd.F (Kd.int .i32) W ok A13 x.f5.length x.f5 ∧ x.f6.f2.length ≤ c16 ∧ Kd.F (Kd.int .i32) W ok A16 x.f6.f2.length x.f6.f2 ∧ x.f7.f2.length ≤ c19 ∧ Kd.F (Kd.int .i32) W ok A19 x.f7.f2.length x.f7.f2 := by
  obtain ⟨A0, c0, A3, c3, A6, c6, A9, c9, A12, c12, A13, c13, A16, c16, A19, c19, rfl, l0, _, l3, _, l6, _, l9, _, l12, _, l13, _, l16, _, l19, _⟩ := k108_open (Kd.FK_now h)
  exact ⟨A0, c0, A3, c3, A6, c6, A9, c9, A12, c12, A13, c13, A16, c16, A19, c19, rfl, l0, (fun W' hW => by obtain ⟨A0_, c0_, A3_, c3_, A6_, c6_, A9_, c9_, A12_, c12_, A13_, c13_, A16_, c16_, A19_, c19_, he, l0_, g0_, l3_, g3_, l6_, g6_, l9_, g9_, l12_, g12_, l13_, g13_, l16_, g16_, l19_, g19_⟩ := k108_open (h W' hW); injection (Option.some.inj (show some (Value.slice A0 x.f0.length c0) = some (Value.slice A0_ x.f0.length c0_) from congrArg (fun l => l[0]?) he)) with ha_ _ _; rw [ha_]; exact g0_), l3, (fun W' hW => by obtain ⟨A0_, c0_, A3_, c3_, A6_, c6_, A9_, c9_, A12_, c12_, A13_, c13_, A16_, c16_, A19_, c19_, he, l0_, g0_, l3_, g3_, l6_, g6_, l9_, g9_, l12_, g12_, l13_, g13_, l16_, g16_, l19_, g19_⟩ := k108_open (h W' hW); injection (Option.some.inj (show some (Value.slice A3 x.f1.f2.length c3) = some (Value.slice A3_ x.f1.f2.length c3_) from congrArg (fun l => l[3]?) he)) with ha_ _ _; rw [ha_]; exact g3_), l6, (fun W' hW => by obtain ⟨A0_, c0_, A3_, c3_, A6_, c6_, A9_, c9_, A12_, c12_, A13_, c13_, A16_, c16_, A19_, c19_, he, l0_, g0_, l3_, g3_, l6_, g6_, l9_, g9_, l12_, g12_, l13_, g13_, l16_, g16_, l19_, g19_⟩ := k108_open (h W' hW); injection (Option.some.inj (show some (Value.slice A6 x.f2.f2.length c6) = some (Value.slice A6_ x.f2.f2.length c6_) from congrArg (fun l => l[6]?) he)) with ha_ _ _; rw [ha_]; exact g6_), l9, (fun W' hW => by obtain ⟨A0_, c0_, A3_, c3_, A6_, c6_, A9_, c9_, A12_, c12_, A13_, c13_, A16_, c16_, A19_, c19_, he, l0_, g0_, l3_, g3_, l6_, g6_, l9_, g9_, l12_, g12_, l13_, g13_, l16_, g16_, l19_, g19_⟩ := k108_open (h W' hW); injection (Option.some.inj (show some (Value.slice A9 x.f3.f2.length c9) = some (Value.slice A9_ x.f3.f2.length c9_) from congrArg (fun l => l[9]?) he)) with ha_ _ _; rw [ha_]; exact g9_), l12, (fun W' hW => by obtain ⟨A0_, c0_, A3_, c3_, A6_, c6_, A9_, c9_, A12_, c12_, A13_, c13_, A16_, c16_, A19_, c19_, he, l0_, g0_, l3_, g3_, l6_, g6_, l9_, g9_, l12_, g12_, l13_, g13_, l16_, g16_, l19_, g19_⟩ := k108_open (h W' hW); injection (Option.some.inj (show some (Value.slice A12 x.f4.f2.length c12) = some (Value.slice A12_ x.f4.f2.length c12_) from congrArg (fun l => l[12]?) he)) with ha_ _ _; rw [ha_]; exact g12_), l13, (fun W' hW => by obtain ⟨A0_, c0_, A3_, c3_, A6_, c6_, A9_, c9_, A12_, c12_, A13_, c13_, A16_, c16_, A19_, c19_, he, l0_, g0_, l3_, g3_, l6_, g6_, l9_, g9_, l12_, g12_, l13_, g13_, l16_, g16_, l19_, g19_⟩ := k108_open (h W' hW); injection (Option.some.inj (show some (Value.slice A13 x.f5.length c13) = some (Value.slice A13_ x.f5.length c13_) from congrArg (fun l => l[13]?) he)) with ha_ _ _; rw [ha_]; exact g13_), l16, (fun W' hW => by obtain ⟨A0_, c0_, A3_, c3_, A6_, c6_, A9_, c9_, A12_, c12_, A13_, c13_, A16_, c16_, A19_, c19_, he, l0_, g0_, l3_, g3_, l6_, g6_, l9_, g9_, l12_, g12_, l13_, g13_, l16_, g16_, l19_, g19_⟩ := k108_open (h W' hW); injection (Option.some.inj (show some (Value.slice A16 x.f6.f2.length c16) = some (Value.slice A16_ x.f6.f2.length c16_) from congrArg (fun l => l[16]?) he)) with ha_ _ _; rw [ha_]; exact g16_), l19, (fun W' hW => by obtain ⟨A0_, c0_, A3_, c3_, A6_, c6_, A9_, c9_, A12_, c12_, A13_, c13_, A16_, c16_, A19_, c19_, he, l0_, g0_, l3_, g3_, l6_, g6_, l9_, g9_, l12_, g12_, l13_, g13_, l16_, g16_, l19_, g19_⟩ := k108_open (h W' hW); injection (Option.some.inj (show some (Value.slice A19 x.f7.f2.length c19) = some (Value.slice A19_ x.f7.f2.length c19_) from congrArg (fun l => l[19]?) he)) with ha_ _ _; rw [ha_]; exact g19_)⟩
theorem k108_mkF (W : World) (ok : Nat → Prop) (x : S108) {A0 : Option Addr} {c0 : Nat} (l0 : x.f0.length ≤ c0) (g0 : Kd.F (Kd.int .i32) W ok A0 x.f0.length x.f0) {A3 : Option Addr} {c3 : Nat} (l3 : x.f1.f2.length ≤ c3) (g3 : Kd.F (Kd.int .i32) W ok A3 x.f1.f2.length x.f1.f2) {A6 : Option Addr} {c6 : Nat} (l6 : x.f2.f2.length ≤ c6) (g6 : Kd.F (Kd.int .i32) W ok A6 x.f2.f2.length x.f2.f2) {A9 : Option Addr} {c9 : Nat} (l9 : x.f3.f2.length ≤ c9) (g9 : Kd.F (Kd.int .i32) W ok A9 x.f3.f2.length x.f3.f2) {A12 : Option Addr} {c12 : Nat} (l12 : x.f4.f2.length ≤ c12) (g12 : Kd.F (Kd.int .i32) W ok A12 x.f4.f2.length x.f4.f2) {A13 : Option Addr} {c13 : Nat} (l13 : x.f5.length ≤ c13) (g13 : Kd.F (Kd.int .i32) W ok A13 x.f5.length x.f5) {A16 : Option Addr} {c16 : Nat} (l16 : x.f6.f2.length ≤ c16) (g16 : Kd.F (Kd.int .i32) W ok A16 x.f6.f2.length x.f6.f2) {A19 : Option Addr} {c19 : Nat} (l19 : x.f7.f2.length ≤ c19) (g19 : Kd.F (Kd.int .i32) W ok A19 x.f7.f2.length x.f7.f2) : Kd.FK k108 W ok x [.slice A0 x.f0.length c0, .int .i64 x.f1.f0, .int .i64 x.f1.f1, .slice A3 x.f1.f2.length c3, .int .i64 x.f2.f0, .int .i64 x.f2.f1, .slice A6 x.f2.f2.length c6, .int .i64 x.f3.f0, .int .i64 x.f3.f1, .slice A9 x.f3.f2.length c9, .int .i64 x.f4.f0, .int .i64 x.f4.f1, .slice A12 x.f4.f2.length c12, .slice A13 x.f5.length c13, .int .i64 x.f6.f0, .int .i64 x.f6.f1, .slice A16 x.f6.f2.length c16, .int .i64 x.f7.f0, .int .i64 x.f7.f1, .slice A19 x.f7.f2.length c19] := fun W2 hW => k108_mk W2 x l0 (g0 W2 hW) l3 (g3 W2 hW) l6 (g6 W2 hW) l9 (g9 W2 hW) l12 (g12 W2 hW) l13 (g13 W2 hW) l16 (g16 W2 hW) l19 (g19 W2 hW)
def rd_T108 (xs : List S108) (i : Int) : S108 := xs.getD i.toNat z108
theorem at_T108 {w : World} {A : Option Addr} {n : Nat} {xs : List S108} (h : Kd.C k108 w A n xs) (i : Int) (h0 : 0 ≤ i) (h1 : i < n) : ∃ ad A0 c0 A3 c3 A6 c6 A9 c9 A12 c12 A13 c13 A16 c16 A19 c19, A = some ad ∧ w.cell? (ad.add (i.toNat * 20)) = some (.slice A0 (rd_T108 xs i).f0.length c0) ∧ w.cell? ⟨(ad.add (i.toNat * 20)).block, (ad.add (i.toNat * 20)).off + 1, none⟩ = some (.int .i64 (rd_T108 xs i).f1.f0) ∧ w.cell? ⟨(ad.add (i.toNat * 20)).block, (ad.add (i.toNat * 20)).off + 2, none⟩ = some (.int .i64 (rd_T108 xs i).f1.f1) ∧ w.cell? ⟨(ad.add (i.toNat * 20)).block, (ad.add (i.toNat * 20)).off + 3, none⟩ = some (.slice A3 (rd_T108 xs i).f1.f2.length c3) ∧ w.cell? ⟨(ad.add (i.toNat * 20)).block, (ad.add (i.toNat * 20)).off + 4, none⟩ = some (.int .i64 (rd_T108 xs i).f2.f0) ∧ w.cell? ⟨(ad.add (i.toNat * 20)).block, (ad.add (i.toNat * 20)).off + 5, none⟩ = some (.int .i64 (rd_T108 xs i).f2.f1) ∧ w.cell? ⟨(ad.add (i.toNat * 20)).block, (ad.add (i.toNat * 20)).off + 6, none⟩ = some (.slice A6 (rd_T108 xs i).f2.f2.length c6) ∧ w.cell? ⟨(ad.add (i.toNat * 20)).block, (ad.add (i.toNat * 20)).off + 7, none⟩ = some (.int .i64 (rd_T108 xs i).f3.f0) ∧ w.cell? ⟨(ad.add (i.toNat * 20)).block, (ad.add (i.toNat * 20)).off + 8, none⟩ = some (.int .i64 (rd_T108 xs i).f3.f1) ∧ w.cell? ⟨(ad.add (i.toNat * 20)).block, (ad.add (i.toNat * 20)).off + 9, none⟩ = some (.slice A9 (rd_T108 xs i).f3.f2.length c9) ∧ w.cell? ⟨(ad.add (i.toNat * 20)).block, (ad.add (i.toNat * 20)).off + 10, none⟩ = some (.int .i64 (rd_T108 xs i).f4.f0) ∧ w.cell? ⟨(ad.add (i.toNat * 20)).block, (ad.add (i.toNat * 20)).off + 11, none⟩ = some (.int .i64 (rd_T108 xs i).f4.f1) ∧ w.cell? ⟨(ad.add (i.toNat * 20)).block, (ad.add (i.toNat * 20)).off + 12, none⟩ = some (.slice A12 (rd_T108 xs i).f4.f2.length c12) ∧ w.cell? ⟨(ad.add (i.toNat * 20)).block, (ad.add (i.toNat * 20)).off + 13, none⟩ = some (.slice A13 (rd_T108 xs i).f5.length c13) ∧ w.cell? ⟨(ad.add (i.toNat * 20)).block, (ad.add (i.toNat * 20)).off + 14, none⟩ = some (.int .i64 (rd_T108 xs i).f6.f0) ∧ w.cell? ⟨(ad.add (i.toNat * 20)).block, (ad.add (i.toNat * 20)).off + 15, none⟩ = some (.int .i64 (rd_T108 xs i).f6.f1) ∧ w.cell? ⟨(ad.add (i.toNat * 20)).block, (ad.add (i.toNat * 20)).off + 16, none⟩ = some (.slice A16 (rd_T108 xs i).f6.f2.length c16) ∧ w.cell? ⟨(ad.add (i.toNat * 20)).block, (ad.add (i.toNat * 20)).off + 17, none⟩ = some (.int .i64 (rd_T108 xs i).f7.f0) ∧ w.cell? ⟨(ad.add (i.toNat * 20)).block, (ad.add (i.toNat * 20)).off + 18, none⟩ = some (.int .i64 (rd_T108 xs i).f7.f1) ∧ w.cell? ⟨(ad.add (i.toNat * 20)).block, (ad.add (i.toNat * 20)).off + 19, none⟩ = some (.slice A19 (rd_T108 xs i).f7.f2.length c19) ∧ (rd_T108 xs i).f0.length ≤ c0 ∧ (Kd.int .i32).C w A0 (rd_T108 xs i).f0.length (rd_T108 xs i).f0 ∧ (rd_T108 xs i).f1.f2.length ≤ c3 ∧ (Kd.int .i32).C w A3 (rd_T108 xs i).f1.f2.length (rd_T108 xs i).f1.f2 ∧ (rd_T108 xs i).f2.f2.length ≤ c6 ∧ (Kd.int .i32).C w A6 (rd_T108 xs i).f2.f2.length (rd_T108 xs i).f2.f2 ∧ (rd_T108 xs i).f3.f2.length ≤ c9 ∧ (Kd.int .i32).C w A9 (rd_T108 xs i).f3.f2.length (rd_T108 xs i).f3.f2 ∧ (rd_T108 xs i).f4.f2.length ≤ c12 ∧ (Kd.int .i32).C w A12 (rd_T108 xs i).f4.f2.length (rd_T108 xs i).f4.f2 ∧ (rd_T108 xs i).f5.length ≤ c13 ∧ (Kd.int .i32).C w A13 (rd_T108 xs i).f5.length (rd_T108 xs i).f5 ∧ (rd_T108 xs i).f6.f2.length ≤ c16 ∧ (Kd.int .i32).C w A16 (rd_T108 xs i).f6.f2.length (rd_T108 xs i).f6.f2 ∧ (rd_T108 xs i).f7.f2.length ≤ c19 ∧ (Kd.int .i32).C w A19 (rd_T108 xs i).f7.f2.length (rd_T108 xs i).f7.f2 := by
  obtain ⟨ad, c, e, _, hK, hc0⟩ := Kd.C_get h z108 i h0 h1
  have hc : ∀ j u, c[j]? = some u → w.cell? (ad.add (i.toNat * 20 + j)) = some u := hc0
  obtain ⟨A0, c0, A3, c3, A6, c6, A9, c9, A12, c12, A13, c13, A16, c16, A19, c19, rfl, l0, g0, l3, g3, l6, g6, l9, g9, l12, g12, l13, g13, l16, g16, l19, g19⟩ := k108_open hK
  exact ⟨ad, A0, c0, A3, c3, A6, c6, A9, c9, A12, c12, A13, c13, A16, c16, A19, c19, e, hc 0 _ rfl, by rw [← add_field _ _ 1 (by omega)]; exact hc 1 _ rfl, by rw [← add_field _ _ 2 (by omega)]; exact hc 2 _ rfl, by rw [← add_field _ _ 3 (by omega)]; exact hc 3 _ rfl, by rw [← add_field _ _ 4 (by omega)]; exact hc 4 _ rfl, by rw [← add_field _ _ 5 (by omega)]; exact hc 5 _ rfl, by rw [← add_field _ _ 6 (by omega)]; exact hc 6 _ rfl, by rw [← add_field _ _ 7 (by omega)]; exact hc 7 _ rfl, by rw [← add_field _ _ 8 (by omega)]; exact hc 8 _ rfl, by rw [← add_field _ _ 9 (by omega)]; exact hc 9 _ rfl, by rw [← add_field _ _ 10 (by omega)]; exact hc 10 _ rfl, by rw [← add_field _ _ 11 (by omega)]; exact hc 11 _ rfl, by rw [← add_field _ _ 12 (by omega)]; exact hc 12 _ rfl, by rw [← add_field _ _ 13 (by omega)]; exact hc 13 _ rfl, by rw [← add_field _ _ 14 (by omega)]; exact hc 14 _ rfl, by rw [← add_field _ _ 15 (by omega)]; exact hc 15 _ rfl, by rw [← add_field _ _ 16 (by omega)]; exact hc 16 _ rfl, by rw [← add_field _ _ 17 (by omega)]; exact hc 17 _ rfl, by rw [← add_field _ _ 18 (by omega)]; exact hc 18 _ rfl, by rw [← add_field _ _ 19 (by omega)]; exact hc 19 _ rfl, l0, g0, l3, g3, l6, g6, l9, g9, l12, g12, l13, g13, l16, g16, l19, g19⟩

def rd_L5 (xs : List (List (List Int))) (i : Int) : (List (List Int)) := xs.getD i.toNat ([] : List (List Int))
theorem at_L5 {w : World} {A : Option Addr} {n : Nat} {xs : List (List (List Int))} (h : Kd.C (Kd.slice 51 (Kd.slice 83 (Kd.int .i32))) w A n xs) (i : Int) (h0 : 0 ≤ i) (h1 : i < n) : ∃ ad A0 c0, A = some ad ∧ w.cell? (ad.add i.toNat) = some (.slice A0 (rd_L5 xs i).length c0) ∧ (rd_L5 xs i).length ≤ c0 ∧ (Kd.slice 83 (Kd.int .i32)).C w A0 (rd_L5 xs i).length (rd_L5 xs i) := by
  obtain ⟨ad, c, e, _, hK, hc0⟩ := Kd.C_get h ([] : List (List Int)) i h0 h1
  have hc : ∀ j u, c[j]? = some u → w.cell? (ad.add (i.toNat * 1 + j)) = some u := hc0
  obtain ⟨A0, c0, rfl, l0, g0⟩ := hK
  exact ⟨ad, A0, c0, e, by have hq := hc 0 _ rfl; rwa [Nat.mul_one, Nat.add_zero] at hq, l0, g0⟩

end Go.Proofs.Ytjihjjbieeofdaa.Q
