/- The closure of block.Read: numbers out of bytes, list by list. No condition but that its three variables are as told. Its frame is a text of the print, turned by mk_readwalk.py. -/
import Derived.Test.YtepbebelbcbciaaQx0
import Derived.Test.YtepbebelbcbciaaZWords
namespace Go.Proofs.Ytepbebelbcbciaa.Q
open Go.RowKit Go.Proofs.YtepbebelbcbciaaW.PrintWords Go.Proofs.YtepbebelbcbciaaW.PrintLast Go.Proofs.YtepbebelbcbciaaW.PrintMore
attribute [local go_sem] max2_int min2_int max_two min_two max_three min_three max_four min_four   -- for this text's walks alone
set_option linter.unusedVariables false
set_option linter.unusedSimpArgs false
/-- A world, one variable of which holds something else. -/
def Upd (w : World) (g : Nat) (v : Value) : World := w.setCell ⟨g, 0, none⟩ v
theorem upd_size (w : World) (g : Nat) (v : Value) : (Upd w g v).heap.size = w.heap.size := by simp [Upd, World.setCell]
theorem upd_far {w : World} {g : Nat} {v : Value} {k : Nat} (h : k ≠ g) : (Upd w g v).heap[k]? = w.heap[k]? := Below.heap_setCell _ _ _ k h
theorem upd_at {w : World} {g : Nat} {v u : Value} {t : TypeId} (h : w.heap[g]? = some (.cells #[u] t (0, 0))) : (Upd w g v).heap[g]? = some (.cells #[v] t (0, 0)) := blk_put h 0 v rfl
theorem upd_start {w : World} {g : Nat} {v : Value} {t : TypeId} (h : w.heap[g]? = some (.cells #[v] t (0, 0))) : Below w.heap.size (Upd w g v) w := by
  refine ⟨rfl, rfl, rfl, by rw [upd_size]; exact Nat.le_refl _, fun k _ => ?_⟩
  by_cases e : k = g
  · subst e
    rw [upd_at h, h]
  · rw [upd_far e]
/-- Below B as it was, B being no greater than what there was. -/
structure BB (B : Nat) (w0 w1 : World) : Prop where
  le : B ≤ w0.heap.size
  be : Below B w0 w1
theorem bb_alloc {B : Nat} {w0 w1 : World} (h : BB B w0 w1) (o : Obj) : BB B w0 (w1.alloc o) := ⟨h.le, h.be.alloc (Nat.le_trans h.le h.be.size) o⟩
theorem bb_drewN {B : Nat} {w0 w1 : World} (h : BB B w0 w1) (n : Nat) : BB B w0 (w1.drewN n) := ⟨h.le, pw_below_drewN h.be n⟩
theorem bb_drew {B : Nat} {w0 w1 : World} (h : BB B w0 w1) : BB B w0 w1.drew := ⟨h.le, h.be.drew⟩
theorem bb_size {B : Nat} {w0 w1 : World} (h : BB B w0 w1) : B ≤ w1.heap.size := Nat.le_trans h.le h.be.size
theorem belB {p : Prop} (h : p := by repeat (first | (with_reducible first | exact HB.out | apply bb_alloc | apply bb_drewN | apply bb_drew) | exact HB.out)) : p := h
theorem bb_put {B g : Nat} {w W : World} {v0 v1 v2 : Value} {t : TypeId} (h : w.heap[g]? = some (.cells #[v0] t (0, 0))) (hW : W.heap[g]? = some (.cells #[v1] t (0, 0))) (hb : BB B (Upd w g v1) W) : BB B (Upd w g v2) (W.setCell ⟨g, 0, none⟩ v2) := by
  refine ⟨by have := hb.le; rwa [upd_size] at this ⊢, ⟨hb.be.os, hb.be.tape, hb.be.output, ?_, fun k hk => ?_⟩⟩
  · have h1 := hb.be.size
    have h2 := upd_size W g v2
    rw [upd_size] at h1 ⊢
    unfold Upd at h2
    rw [h2]
    exact h1
  · by_cases e : k = g
    · subst e
      rw [upd_at h]
      exact upd_at hW
    · rw [upd_far e]
      exact (upd_far (w := W) e).trans ((hb.be.block k hk).trans (upd_far e))
/-! What is known behind a call that turns one variable. -/
theorem uc_blk {W w1 : World} {g k : Nat} {v : Value} {o : Obj} (h : W.heap[k]? = some o) (ne : k ≠ g) (hb : Below W.heap.size (Upd W g v) w1) : w1.heap[k]? = some o := (hb.block k (blk_lt h)).trans ((upd_far ne).trans h)
theorem uc_self {W w1 : World} {g : Nat} {v u : Value} {t : TypeId} (h : W.heap[g]? = some (.cells #[u] t (0, 0))) (hb : Below W.heap.size (Upd W g v) w1) : w1.heap[g]? = some (.cells #[v] t (0, 0)) := (hb.block g (blk_lt h)).trans (upd_at h)
theorem uc_R {α : Type} {d : Kd α} {e base : Nat} {ok : Nat → Prop} {x : Value} {xs : List α} {W w1 : World} {g : Nat} {v : Value} {cs : Array Value} {t : TypeId} (h : d.R e W base ok x xs) (hc : W.heap[g]? = some (.cells cs t (0, 0))) (ht : ∀ q, q ∈ e :: d.E → q ≠ t) (hb : Below W.heap.size (Upd W g v) w1) : d.R e w1 base ok x xs :=
  Kd.R_mono (Kd.R_step (Kd.R_types h hc ht) (fun k hk hlt => (hb.block k hlt).trans (upd_far hk.2))) (fun _ hk => hk.1)
theorem uc_B {w W w1 : World} {g : Nat} {v : Value} (h : Below w.heap.size w W) (hg : w.heap.size ≤ g) (hb : Below W.heap.size (Upd W g v) w1) : Below w.heap.size w w1 :=
  (below_set (j := 0) (v := v) h hg).trans ⟨hb.os, hb.tape, hb.output, hb.size, fun k hk => hb.block k (Nat.lt_of_lt_of_le hk h.size)⟩
theorem uc_lt {W w1 : World} {g : Nat} {v : Value} (hb : Below W.heap.size (Upd W g v) w1) : W.heap.size ≤ w1.heap.size := by have := hb.size; rwa [upd_size] at this
theorem uc_elder {α : Type} {d : Kd α} {e base : Nat} {ok : Nat → Prop} {x y : Value} {xs : List α} {W w1 : World} {g : Nat} {v : Value} {cs : Array Value} {t : TypeId} (h : d.R e W base ok x xs) (hc : W.heap[g]? = some (.cells cs t (0, 0))) (ht : ∀ q, q ∈ e :: d.E → q ≠ t) (hb : Below W.heap.size (Upd W g v) w1) (hy : ∀ k, y.ownBlock = some k → W.heap.size ≤ k) :
    d.R e w1 base (fun k => ok k ∧ some k ≠ y.ownBlock) x xs :=
  Kd.R_mono (Kd.R_step (Kd.R_types (Kd.R_bound h) hc ht) (fun k hk hlt => (hb.block k hlt).trans (upd_far hk.2))) (fun k hk => ⟨hk.1.1, fun he => by have := hy k he.symm; have := hk.1.2.2.1; omega⟩)
/-- The bytes of a string, as a row that is read. -/
theorem V_bytes {P : Program} {ops : Array Oper} {rest : List Oper} {o : Oper} {a : Act} {Q : Exit → Act → World → Prop} {W : World} (hgd : o.guard = none) {N : Tmp} (_hd : o.dst = some N) (src dst e : Nat) (x : Operand) (ho : o.op = .convert src dst x) (s : ByteArray) (hx : a.eval x = .string s) (hs : s.size ≤ 9223372036854775807)
    {u : TypeDesc} (h1 : P.underlying src = some u) (h2 : P.underlying dst = some (.slice e)) (h3 : P.underlying e = some (.int .u8))
    (h : ∀ v1 w1, Kd.V (Kd.int .u8) e w1 W.heap.size (fun k => W.heap.size ≤ k) v1 (bytesOf s) → Below W.heap.size W w1 → wpList P ops Q rest (a.put o.dst v1) w1) : wpList P ops Q (o :: rest) a W := by
  have hr := print_bytes (P := P) src dst e h1 h2 h3 s W
  refine Kd.event_run hgd (v := .slice (some ⟨W.heap.size, 0, none⟩) s.size (grownCap W s.size 0 e)) (w1 := Lib.bytesWorld W e s) (by simp [execOp, ho, hx, hr]) (h _ _ ⟨some ⟨W.heap.size, 0, none⟩, grownCap W s.size 0 e, by rw [bytesOf_length], ?_, ?_⟩ (bytes_below (Below.refl _ _) (Nat.le_refl _) e s))
  · have := hr
    rw [bytesOf_length]
    unfold grownCap
    first | omega | (simp; omega) | exact Nat.le_add_right _ _
  · intro W' hW
    have hc : W'.heap[W.heap.size]? = (Lib.bytesWorld W e s).heap[W.heap.size]? := hW _ (Nat.le_refl _) (by rw [Lib.bytesWorld_size]; omega)
    refine Kd.C_of_reads (d := (0 : Int)) ⟨rfl, by rw [bytesOf_length]; exact hs, fun hp => ⟨_, rfl, fun j hj => ?_⟩⟩
    have h4 := (bytes_reads W e s hs).2.2 (by rw [bytesOf_length] at hp; exact hp)
    obtain ⟨ad, ea, hq⟩ := h4
    obtain rfl := Option.some.inj ea
    have h5 := hq j (by rw [bytesOf_length] at hj; exact hj)
    rw [add_plain] at h5 ⊢
    rw [← h5]
    simp [World.cell?, hc]
mutual
def block_Read_1.l0 : Nat → List (List (List Int)) → Int → Int → Int → Int → Int → Int → Int → Int → ByteArray → Option ((List (List (List Int))) × ByteArray)
 | 0, _, _, _, _, _, _, _, _, _, _ => none
 | k + 1, x4, x8, x9, x111000, x111001, x111002, x111003, x111004, x112000, x113000 => if x9 < x8 then (block_Read_1.l1 k x4 ([] : List (List Int)) x8 x9 x112000 0 x111000 x111001 x111002 x111003 x111004 x112000 x113000) else (some (x4, x113000))
def block_Read_1.l1 : Nat → List (List (List Int)) → List (List Int) → Int → Int → Int → Int → Int → Int → Int → Int → Int → Int → ByteArray → Option ((List (List (List Int))) × ByteArray)
 | 0, _, _, _, _, _, _, _, _, _, _, _, _, _ => none
 | k + 1, x4, x5, x8, x9, x11, x12, x111000, x111001, x111002, x111003, x111004, x112000, x113000 => if x12 < x11 then (block_Read_1.l2 k x4 x5 ([] : List Int) x8 x9 x11 x12 x111001 0 x111000 x111001 x111002 x111003 x111004 x112000 x113000) else (if x4.length < 5864062014805 then (block_Read_1.l0 k (x4 ++ [x5]) x8 (wrap64 (x9 + 1)) x111000 x111001 x111002 x111003 x111004 x112000 x113000) else (none))
def block_Read_1.l2 : Nat → List (List (List Int)) → List (List Int) → List Int → Int → Int → Int → Int → Int → Int → Int → Int → Int → Int → Int → Int → ByteArray → Option ((List (List (List Int))) × ByteArray)
 | 0, _, _, _, _, _, _, _, _, _, _, _, _, _, _, _, _ => none
 | k + 1, x4, x5, x6, x8, x9, x11, x12, x15, x16, x111000, x111001, x111002, x111003, x111004, x112000, x113000 => if x16 < x15 then (if 0 < (x113000.size : Int) then (if 1 < (x113000.size : Int) then (if 2 < (x113000.size : Int) then (if 3 < (x113000.size : Int) then (if x6.length < 35184372088832 then (if 4 ≤ (x113000.size : Int) then (block_Read_1.l2 k x4 x5 (x6 ++ [wrap32 (Go.bits .or .u32 (Go.bits .or .u32 (Go.bits .or .u32 ((((bt x113000 0) % 4294967296) * 16777216) % 4294967296) ((((bt x113000 1) % 4294967296) * 65536) % 4294967296)) ((((bt x113000 2) % 4294967296) * 256) % 4294967296)) ((bt x113000 3) % 4294967296))]) x8 x9 x11 x12 x15 (wrap64 (x16 + 1)) x111000 x111001 x111002 x111003 x111004 x112000 (x113000.extract 4 x113000.size)) else (none)) else (none)) else (none)) else (none)) else (none)) else (none)) else (if x5.length < 5864062014805 then (block_Read_1.l1 k x4 (x5 ++ [x6]) x8 x9 x11 (wrap64 (x12 + 1)) x111000 x111001 x111002 x111003 x111004 x112000 x113000) else (none))
end
def block_Read_1.f (k : Nat) (a0_0 : Int) (a0_1 : Int) (a0_2 : Int) (a0_3 : Int) (a0_4 : Int) (a1 : Int) (a2 : ByteArray) : Option ((List (List (List Int))) × ByteArray) := block_Read_1.l0 k ([] : List (List (List Int))) a0_4 0 a0_0 a0_1 a0_2 a0_3 a0_4 a1 a2
theorem block_Read_1.mono_l : ∀ k, (∀ y0 y1 y2 y3 y4 y5 y6 y7 y8 y9, LeO (block_Read_1.l0 k y0 y1 y2 y3 y4 y5 y6 y7 y8 y9) (block_Read_1.l0 (k + 1) y0 y1 y2 y3 y4 y5 y6 y7 y8 y9)) ∧ (∀ y0 y1 y2 y3 y4 y5 y6 y7 y8 y9 y10 y11 y12, LeO (block_Read_1.l1 k y0 y1 y2 y3 y4 y5 y6 y7 y8 y9 y10 y11 y12) (block_Read_1.l1 (k + 1) y0 y1 y2 y3 y4 y5 y6 y7 y8 y9 y10 y11 y12)) ∧ (∀ y0 y1 y2 y3 y4 y5 y6 y7 y8 y9 y10 y11 y12 y13 y14 y15, LeO (block_Read_1.l2 k y0 y1 y2 y3 y4 y5 y6 y7 y8 y9 y10 y11 y12 y13 y14 y15) (block_Read_1.l2 (k + 1) y0 y1 y2 y3 y4 y5 y6 y7 y8 y9 y10 y11 y12 y13 y14 y15))
 | 0 => ⟨fun _ _ _ _ _ _ _ _ _ _ r h => by simp [block_Read_1.l0] at h, fun _ _ _ _ _ _ _ _ _ _ _ _ _ r h => by simp [block_Read_1.l1] at h, fun _ _ _ _ _ _ _ _ _ _ _ _ _ _ _ _ r h => by simp [block_Read_1.l2] at h⟩
 | k + 1 => by
  obtain ⟨ih0, ih1, ih2⟩ := block_Read_1.mono_l k
  refine ⟨?_, ?_, ?_⟩
  ·intro y0 y1 y2 y3 y4 y5 y6 y7 y8 y9
   unfold block_Read_1.l0
   repeat' first
   | (with_reducible exact ih0 _ _ _ _ _ _ _ _ _ _)
   | (with_reducible exact ih1 _ _ _ _ _ _ _ _ _ _ _ _ _)
   | (with_reducible exact ih2 _ _ _ _ _ _ _ _ _ _ _ _ _ _ _ _)
   | (with_reducible exact LeO.refl _)
   | (with_reducible exact LeO.none _)
   | (with_reducible refine LeO.ite ?_ ?_)
   | (with_reducible refine LeO.bind ?_ (fun _ => ?_))
   | exact ih0 _ _ _ _ _ _ _ _ _ _
   | exact ih1 _ _ _ _ _ _ _ _ _ _ _ _ _
   | exact ih2 _ _ _ _ _ _ _ _ _ _ _ _ _ _ _ _
   | exact LeO.none _
   | refine LeO.ite ?_ ?_
   | refine LeO.bind ?_ (fun _ => ?_)
  ·intro y0 y1 y2 y3 y4 y5 y6 y7 y8 y9 y10 y11 y12
   unfold block_Read_1.l1
   repeat' first
   | (with_reducible exact ih0 _ _ _ _ _ _ _ _ _ _)
   | (with_reducible exact ih1 _ _ _ _ _ _ _ _ _ _ _ _ _)
   | (with_reducible exact ih2 _ _ _ _ _ _ _ _ _ _ _ _ _ _ _ _)
   | (with_reducible exact LeO.refl _)
   | (with_reducible exact LeO.none _)
   | (with_reducible refine LeO.ite ?_ ?_)
   | (with_reducible refine LeO.bind ?_ (fun _ => ?_))
   | exact ih0 _ _ _ _ _ _ _ _ _ _
   | exact ih1 _ _ _ _ _ _ _ _ _ _ _ _ _
   | exact ih2 _ _ _ _ _ _ _ _ _ _ _ _ _ _ _ _
   | exact LeO.none _
   | refine LeO.ite ?_ ?_
   | refine LeO.bind ?_ (fun _ => ?_)
  ·intro y0 y1 y2 y3 y4 y5 y6 y7 y8 y9 y10 y11 y12 y13 y14 y15
   unfold block_Read_1.l2
   repeat' first
   | (with_reducible exact ih0 _ _ _ _ _ _ _ _ _ _)
   | (with_reducible exact ih1 _ _ _ _ _ _ _ _ _ _ _ _ _)
   | (with_reducible exact ih2 _ _ _ _ _ _ _ _ _ _ _ _ _ _ _ _)
   | (with_reducible exact LeO.refl _)
   | (with_reducible exact LeO.none _)
   | (with_reducible refine LeO.ite ?_ ?_)
   | (with_reducible refine LeO.bind ?_ (fun _ => ?_))
   | exact ih0 _ _ _ _ _ _ _ _ _ _
   | exact ih1 _ _ _ _ _ _ _ _ _ _ _ _ _
   | exact ih2 _ _ _ _ _ _ _ _ _ _ _ _ _ _ _ _
   | exact LeO.none _
   | refine LeO.ite ?_ ?_
   | refine LeO.bind ?_ (fun _ => ?_)
theorem block_Read_1.mono : ∀ a0 a1 a2 a3 a4 a5 a6 k, LeO (block_Read_1.f k a0 a1 a2 a3 a4 a5 a6) (block_Read_1.f (k + 1) a0 a1 a2 a3 a4 a5 a6) := by
 intro a0 a1 a2 a3 a4 a5 a6 k
 obtain ⟨ih0, ih1, ih2⟩ := block_Read_1.mono_l k
 unfold block_Read_1.f
 repeat' first
   | (with_reducible exact ih0 _ _ _ _ _ _ _ _ _ _)
   | (with_reducible exact ih1 _ _ _ _ _ _ _ _ _ _ _ _ _)
   | (with_reducible exact ih2 _ _ _ _ _ _ _ _ _ _ _ _ _ _ _ _)
   | (with_reducible exact LeO.refl _)
   | (with_reducible exact LeO.none _)
   | (with_reducible refine LeO.ite ?_ ?_)
   | (with_reducible refine LeO.bind ?_ (fun _ => ?_))
   | exact ih0 _ _ _ _ _ _ _ _ _ _
   | exact ih1 _ _ _ _ _ _ _ _ _ _ _ _ _
   | exact ih2 _ _ _ _ _ _ _ _ _ _ _ _ _ _ _ _
   | exact LeO.none _
   | refine LeO.ite ?_ ?_
   | refine LeO.bind ?_ (fun _ => ?_)
def block_Read_1.T10 : Bool × List (List Nat × List Nat) := (true, [([], []), ([], []), ([1], [1]), ([2], [2]), ([3], [3]), ([], []), ([5], [5]), ([6], [6]), ([7], [7]), ([4, 8], [4, 8]), ([], []), ([10], [10]), ([11], [11]), ([12], [12]), ([9, 13], [9, 13]), ([], []), ([15], [15]), ([16], [16]), ([14, 17], [14, 17]), ([18], [18]), ([19], [19]), ([0, 20], [0, 20]), ([21, 21, 0, 1, 2, 3, 4, 5, 6, 7, 8, 9, 10, 11, 12, 13, 14, 15, 16, 17, 18, 19, 20, 21], [0, 21])])
def block_Read_1.B10 : List Nat := [0, 0, 2, 6, 14, 0, 32, 96, 224, 510, 0, 1024, 3072, 7168, 16382, 0, 32768, 98304, 262142, 524286, 1048574, 2097151, 4194303]
theorem block_Read_1.tab10 : rtab .any (opsOf Try.f43 10) = block_Read_1.T10 := by kernel_rfl
theorem block_Read_1.bits10 : waitsOk block_Read_1.T10.2 block_Read_1.B10 = true := by kernel_rfl
set_option maxHeartbeats 8000000 in
set_option maxRecDepth 100000 in
theorem block_Read_1.calls (k : Nat) (gb110 gb111 gb112 : Nat) (a0_0 : Int) (a0_1 : Int) (a0_2 : Int) (a0_3 : Int) (a0_4 : Int) (a1 : Int) (a2 : ByteArray) (r1 : List (List (List Int))) (r2 : ByteArray) (w : World) (bk0 : w.heap[gb110]? = some (.cells #[.int .i64 a0_0, .int .i64 a0_1, .int .i64 a0_2, .int .i64 a0_3, .int .i64 a0_4] 23 (0, 0))) (bk1 : w.heap[gb111]? = some (.cells #[.int .i64 a1] 3 (0, 0))) (bk2 : w.heap[gb112]? = some (.cells #[.string a2] 9 (0, 0))) (n0 : gb110 ≠ gb111) (n1 : gb110 ≠ gb112) (n2 : gb111 ≠ gb112) (h : block_Read_1.f k a0_0 a0_1 a0_2 a0_3 a0_4 a1 a2 = some (r1, r2)) :
  Calls Try.prog 43 #[.pointer (some ⟨gb110, 0, none⟩), .pointer (some ⟨gb111, 0, none⟩), .pointer (some ⟨gb112, 0, none⟩)] w fun e w' => ∃ v0_ : Value, e = .returned v0_ ∧ Kd.R (Kd.slice 61 (Kd.slice 72 (Kd.int .i32))) 62 w' w.heap.size (fun _ => True) v0_ r1 ∧ Below w.heap.size (Upd w gb112 (.string r2)) w' := by
 obtain ⟨B, hBe⟩ : ∃ B, B = w.heap.size := ⟨_, rfl⟩
 rw [← hBe]
 have HB := Aside0.mk (BB.mk (w1 := w) (show B ≤ (Upd w gb112 (.string a2)).heap.size by rw [upd_size, hBe]; exact Nat.le_refl _) (hBe ▸ upd_start bk2))
 have BK110 := Aside0.mk bk0
 have BK111 := Aside0.mk bk1
 have BK112 := Aside0.mk bk2
 have HK2_ := Aside0.mk bk2
 have NB110_111 := Aside0.mk n0
 have NB111_110 := Aside0.mk (Ne.symm n0)
 have NB110_112 := Aside0.mk n1
 have NB112_110 := Aside0.mk (Ne.symm n1)
 have NB111_112 := Aside0.mk n2
 have NB112_111 := Aside0.mk (Ne.symm n2)
 clear hBe bk0 bk1 bk2 n0 n1 n2
 have H : (block_Read_1.l0 k ([] : List (List (List Int))) a0_4 0 a0_0 a0_1 a0_2 a0_3 a0_4 a1 a2) = some (r1, r2) := h
 clear h
 have H' := Aside0.mk H
 clear H
 go_enter Try.func43, Try.ntmps43
 obtain ⟨hcA0, hcA1, hcA2, hcA3, hcA4, hfA0, hfA1, hfA2, hfA3, hfA4⟩ := cq5 BK110.out
 go_wp2
 clear hcA0 hcA1 hcA2 hcA3 hcA4 hfA0 hfA1 hfA2 hfA3 hfA4
 go_loopg [4, 9] k (fun kq v4 v9 w' => ∃ (x4_1 : List (List (List Int))) (x9_1 : Int) (x113000_1 : ByteArray), v9 = .int .i64 x9_1 ∧ Aside0 (block_Read_1.l0 kq x4_1 a0_4 x9_1 a0_0 a0_1 a0_2 a0_3 a0_4 a1 x113000_1 = some (r1, r2)) ∧ Aside0 (kq ≤ k) ∧ Aside0 (Kd.R (Kd.slice 61 (Kd.slice 72 (Kd.int .i32))) 62 w' B (fun _ => True) v4 x4_1) ∧ Aside0 (w'.heap[gb110]? = some (.cells #[.int .i64 a0_0, .int .i64 a0_1, .int .i64 a0_2, .int .i64 a0_3, .int .i64 a0_4] 23 (0, 0))) ∧ Aside0 (w'.heap[gb111]? = some (.cells #[.int .i64 a1] 3 (0, 0))) ∧ Aside0 (w'.heap[gb112]? = some (.cells #[.string x113000_1] 9 (0, 0))) ∧ Aside0 (BB B (Upd w gb112 (.string x113000_1)) w'))
 case atStart => exact ⟨(([] : List (List (List Int)))), (0), (a2), rs, H', ⟨Nat.le_refl _⟩, ⟨by first | exact Kd.R_nil _ _ _ _ _ | exact Kd.N_nil _ _ _ _ _ | exact Kd.V_nil _ _ _ _ _ | exact Kd.Q_nil _ _ _ _ _ | exact Kd.S_nil _ _ _ _ _⟩, ⟨by (with_reducible repeat (first | refine blk_drewN ?_ _ | refine blk_drew ?_)); exact BK110.out⟩, ⟨by (with_reducible repeat (first | refine blk_drewN ?_ _ | refine blk_drew ?_)); exact BK111.out⟩, ⟨by (with_reducible repeat (first | refine blk_drewN ?_ _ | refine blk_drew ?_)); exact BK112.out⟩, ⟨belB⟩⟩
 case round =>
  clear H'
  try clear c1
  try clear p2
  try clear c4
  try clear c6
  try clear c9
  try clear c10
  try clear hcz11_0
  try clear hcz12_0
  try clear hcz12_1
  try clear hcz12_2
  try clear hcz12_3
  try clear hcz12_4
  try clear hcz7_0
  try clear hfz11_0
  try clear hfz12_0
  try clear hfz12_1
  try clear hfz12_2
  try clear hfz12_3
  try clear hfz12_4
  try clear hfz7_0
  obtain ⟨x4_1, x9_1, x113000_1, rfl, HA, HK1, HO_4, BK110, BK111, BK112, HB⟩ := hrel
  cases gk with
  | zero => exact absurd HA.out (by simp [block_Read_1.l0])
  | succ k1 =>
   have H := HA.out
   clear HA
   simp only [block_Read_1.l0] at H
   by_cases c13 : x9_1 < a0_4
   ·rw [if_pos c13] at H
    have c13b0 : decide (x9_1 < a0_4) = true := decide_eq_true c13
    clear c13
    have H' := Aside0.mk H
    clear H
    have hnb14 := NB111_110.out
    have hnc14 := NB110_111.out
    have hnb15 := NB111_112.out
    have hnc15 := NB112_111.out
    have hcz16_0 := cv BK111.out 0 (.int .i64 a1)
    have hfz16_0 := blk_frozen BK111.out 0
    go_wp2
    go_loopg [5, 12] k1 (fun kq v5 v12 w' => ∃ (x5_2 : List (List Int)) (x12_2 : Int) (x113000_2 : ByteArray), v12 = .int .i64 x12_2 ∧ Aside0 (block_Read_1.l1 kq x4_1 x5_2 a0_4 x9_1 a1 x12_2 a0_0 a0_1 a0_2 a0_3 a0_4 a1 x113000_2 = some (r1, r2)) ∧ Aside0 (kq ≤ k1) ∧ Aside0 (Kd.R (Kd.slice 61 (Kd.slice 72 (Kd.int .i32))) 62 w' B (fun k_ => some k_ ≠ (v5 : Value).ownBlock) u4 x4_1) ∧ Aside0 (Kd.S (Kd.slice 72 (Kd.int .i32)) 61 w' B (fun _ => True) v5 x5_2) ∧ Aside0 (w'.heap[gb110]? = some (.cells #[.int .i64 a0_0, .int .i64 a0_1, .int .i64 a0_2, .int .i64 a0_3, .int .i64 a0_4] 23 (0, 0))) ∧ Aside0 (w'.heap[gb111]? = some (.cells #[.int .i64 a1] 3 (0, 0))) ∧ Aside0 (w'.heap[gb112]? = some (.cells #[.string x113000_2] 9 (0, 0))) ∧ Aside0 (BB B (Upd w gb112 (.string x113000_2)) w'))
    case atStart => exact ⟨(([] : List (List Int))), (0), (x113000_1), rs, H', ⟨Nat.le_refl _⟩, ⟨by (with_reducible repeat (first | apply Kd.R_alloc | apply Kd.R_drewN | apply Kd.R_drew)); exact Kd.R_mono HO_4.out (fun _ hk => (by simp [Value.ownBlock]))⟩, ⟨by first | exact Kd.S_nil _ _ _ _ _ | exact Kd.N_nil _ _ _ _ _ | exact Kd.V_nil _ _ _ _ _ | exact Kd.Q_nil _ _ _ _ _ | exact Kd.R_nil _ _ _ _ _⟩, ⟨by (with_reducible repeat (first | refine blk_drewN ?_ _ | refine blk_drew ?_ | refine blk_alloc ?_ _)); exact BK110.out⟩, ⟨by (with_reducible repeat (first | refine blk_drewN ?_ _ | refine blk_drew ?_ | refine blk_alloc ?_ _)); exact BK111.out⟩, ⟨by (with_reducible repeat (first | refine blk_drewN ?_ _ | refine blk_drew ?_ | refine blk_alloc ?_ _)); exact BK112.out⟩, ⟨belB⟩⟩
    case round =>
     clear H'
     try clear c1
     try clear p2
     try clear c4
     try clear c6
     try clear c9
     try clear c10
     try clear c13
     try clear c13b0
     try clear c14
     try clear c15
     try clear hcz11_0
     try clear hcz12_0
     try clear hcz12_1
     try clear hcz12_2
     try clear hcz12_3
     try clear hcz12_4
     try clear hcz16_0
     try clear hcz7_0
     try clear hfz11_0
     try clear hfz12_0
     try clear hfz12_1
     try clear hfz12_2
     try clear hfz12_3
     try clear hfz12_4
     try clear hfz16_0
     try clear hfz7_0
     try clear p2
     obtain ⟨x5_2, x12_2, x113000_2, rfl, HA, HK2, HO_4, HO_5, BK110, BK111, BK112, HB⟩ := hrel
     cases gk with
     | zero => exact absurd HA.out (by simp [block_Read_1.l1])
     | succ k2 =>
      have H := HA.out
      clear HA
      simp only [block_Read_1.l1] at H
      by_cases c17 : x12_2 < a1
      ·rw [if_pos c17] at H
       have c17b0 : decide (x12_2 < a1) = true := decide_eq_true c17
       clear c17
       have H' := Aside0.mk H
       clear H
       have hnb18 := NB110_111.out
       have hnc18 := NB111_110.out
       have hnb19 := NB110_112.out
       have hnc19 := NB112_110.out
       obtain ⟨hcz20_0, hcz20_1, hcz20_2, hcz20_3, hcz20_4, hfz20_0, hfz20_1, hfz20_2, hfz20_3, hfz20_4⟩ := cq5 BK110.out
       go_wp2
       go_loopg [6, 16] k2 (fun kq v6 v16 w' => ∃ (x6_3 : List Int) (x16_3 : Int) (x113000_3 : ByteArray), v16 = .int .i64 x16_3 ∧ Aside0 (block_Read_1.l2 kq x4_1 x5_2 x6_3 a0_4 x9_1 a1 x12_2 a0_1 x16_3 a0_0 a0_1 a0_2 a0_3 a0_4 a1 x113000_3 = some (r1, r2)) ∧ Aside0 (kq ≤ k2) ∧ Aside0 (Kd.R (Kd.slice 61 (Kd.slice 72 (Kd.int .i32))) 62 w' B (fun k_ => some k_ ≠ (u5 : Value).ownBlock ∧ some k_ ≠ (v6 : Value).ownBlock) u4 x4_1) ∧ Aside0 (Kd.S (Kd.slice 72 (Kd.int .i32)) 61 w' B (fun k_ => some k_ ≠ (v6 : Value).ownBlock) u5 x5_2) ∧ Aside0 (Kd.R (Kd.int .i32) 72 w' B (fun _ => True) v6 x6_3) ∧ Aside0 (w'.heap[gb110]? = some (.cells #[.int .i64 a0_0, .int .i64 a0_1, .int .i64 a0_2, .int .i64 a0_3, .int .i64 a0_4] 23 (0, 0))) ∧ Aside0 (w'.heap[gb111]? = some (.cells #[.int .i64 a1] 3 (0, 0))) ∧ Aside0 (w'.heap[gb112]? = some (.cells #[.string x113000_3] 9 (0, 0))) ∧ Aside0 (BB B (Upd w gb112 (.string x113000_3)) w'))
       case atStart => exact ⟨(([] : List Int)), (0), (x113000_2), rs, H', ⟨Nat.le_refl _⟩, ⟨by (with_reducible repeat (first | apply Kd.R_alloc | apply Kd.R_drewN | apply Kd.R_drew)); exact Kd.R_mono HO_4.out (fun _ hk => ⟨hk, (by simp [Value.ownBlock])⟩)⟩, ⟨by (with_reducible repeat (first | apply Kd.S_alloc | apply Kd.S_drewN | apply Kd.S_drew)); exact Kd.S_mono HO_5.out (fun _ hk => (by simp [Value.ownBlock]))⟩, ⟨by first | exact Kd.R_nil _ _ _ _ _ | exact Kd.N_nil _ _ _ _ _ | exact Kd.V_nil _ _ _ _ _ | exact Kd.Q_nil _ _ _ _ _ | exact Kd.S_nil _ _ _ _ _⟩, ⟨by (with_reducible repeat (first | refine blk_drewN ?_ _ | refine blk_drew ?_ | refine blk_alloc ?_ _)); exact BK110.out⟩, ⟨by (with_reducible repeat (first | refine blk_drewN ?_ _ | refine blk_drew ?_ | refine blk_alloc ?_ _)); exact BK111.out⟩, ⟨by (with_reducible repeat (first | refine blk_drewN ?_ _ | refine blk_drew ?_ | refine blk_alloc ?_ _)); exact BK112.out⟩, ⟨belB⟩⟩
       case round =>
        clear H'
        try clear c1
        try clear p2
        try clear c4
        try clear c6
        try clear c9
        try clear c10
        try clear c13
        try clear c13b0
        try clear c14
        try clear c15
        try clear c17
        try clear c17b0
        try clear c18
        try clear c19
        try clear hcz11_0
        try clear hcz12_0
        try clear hcz12_1
        try clear hcz12_2
        try clear hcz12_3
        try clear hcz12_4
        try clear hcz16_0
        try clear hcz20_0
        try clear hcz20_1
        try clear hcz20_2
        try clear hcz20_3
        try clear hcz20_4
        try clear hcz7_0
        try clear hfz11_0
        try clear hfz12_0
        try clear hfz12_1
        try clear hfz12_2
        try clear hfz12_3
        try clear hfz12_4
        try clear hfz16_0
        try clear hfz20_0
        try clear hfz20_1
        try clear hfz20_2
        try clear hfz20_3
        try clear hfz20_4
        try clear hfz7_0
        try clear p2
        obtain ⟨x6_3, x16_3, x113000_3, rfl, HA, HK3, HO_4, HO_5, HO_6, BK110, BK111, BK112, HB⟩ := hrel
        cases gk with
        | zero => exact absurd HA.out (by simp [block_Read_1.l2])
        | succ k3 =>
         have H := HA.out
         clear HA
         simp only [block_Read_1.l2] at H
         by_cases c21 : x16_3 < a0_1
         ·rw [if_pos c21] at H
          have c21b0 : decide (x16_3 < a0_1) = true := decide_eq_true c21
          clear c21
          by_cases c22 : 0 < (x113000_3.size : Int)
          ·rw [if_pos c22] at H
           have c22b0 : decide (0 < (x113000_3.size : Int)) = true := decide_eq_true c22
           have c22b1 : decide (0 < x113000_3.size) = true := decide_eq_true (by omega)
           clear c22
           by_cases c24 : 1 < (x113000_3.size : Int)
           ·rw [if_pos c24] at H
            have c24b0 : decide (1 < (x113000_3.size : Int)) = true := decide_eq_true c24
            have c24b1 : decide (1 < x113000_3.size) = true := decide_eq_true (by omega)
            clear c24
            by_cases c26 : 2 < (x113000_3.size : Int)
            ·rw [if_pos c26] at H
             have c26b0 : decide (2 < (x113000_3.size : Int)) = true := decide_eq_true c26
             have c26b1 : decide (2 < x113000_3.size) = true := decide_eq_true (by omega)
             clear c26
             by_cases c28 : 3 < (x113000_3.size : Int)
             ·rw [if_pos c28] at H
              have c28b0 : decide (3 < (x113000_3.size : Int)) = true := decide_eq_true c28
              have c28b1 : decide (3 < x113000_3.size) = true := decide_eq_true (by omega)
              clear c28
              by_cases c30 : x6_3.length < 35184372088832
              ·rw [if_pos c30] at H
               have LMc30 := Aside0.mk c30
               clear c30
               obtain ⟨y116, hy116⟩ : ∃ y_ : List Int, y_ = (x6_3 ++ [wrap32 (Go.bits .or .u32 (Go.bits .or .u32 (Go.bits .or .u32 ((((bt x113000_3 0) % 4294967296) * 16777216) % 4294967296) ((((bt x113000_3 1) % 4294967296) * 65536) % 4294967296)) ((((bt x113000_3 2) % 4294967296) * 256) % 4294967296)) ((bt x113000_3 3) % 4294967296))]) := ⟨_, rfl⟩
               replace H : (if 4 ≤ (x113000_3.size : Int) then (block_Read_1.l2 k3 x4_1 x5_2 y116 a0_4 x9_1 a1 x12_2 a0_1 (wrap64 (x16_3 + 1)) a0_0 a0_1 a0_2 a0_3 a0_4 a1 (x113000_3.extract 4 x113000_3.size)) else (none)) = some (r1, r2) := by first | (rw [hy116]; with_reducible exact H) | (have H2_ := (Option.bind_some _ _).symm.trans H; rw [hy116]; with_reducible exact H2_) | (have H2_ := (Option.bind_some _ _).symm.trans H; with_reducible exact H2_) | with_reducible exact H | (rw [hy116]; exact H) | exact H
               have Ny116 := Aside0.mk hy116
               clear hy116
               by_cases c31 : 4 ≤ (x113000_3.size : Int)
               ·rw [if_pos c31] at H
                have c31b0 := eq_true c31
                have c31b1 : decide (4 ≤ (x113000_3.size : Int)) = true := decide_eq_true c31
                clear c31
                have H' := Aside0.mk H
                clear H
                try go_wp2
                have n0_ := Aside0.mk (Kd.R_drew HO_4.out)
                have n1_ := Aside0.mk (Kd.S_drew HO_5.out)
                have n2_ := Aside0.mk (Kd.R_drew HO_6.out)
                have n3_ := Aside0.mk (blk_drew BK110.out)
                have n4_ := Aside0.mk (blk_drew BK111.out)
                have n5_ := Aside0.mk (blk_drew BK112.out)
                have n6_ := Aside0.mk (bb_drew HB.out)
                clear HO_4
                clear HO_5
                clear HO_6
                clear BK110
                clear BK111
                clear BK112
                clear HB
                have HO_4 := n0_
                have HO_5 := n1_
                have HO_6 := n2_
                have BK110 := n3_
                have BK111 := n4_
                have BK112 := n5_
                have HB := n6_
                clear n0_ n1_ n2_ n3_ n4_ n5_ n6_
                have p23 : 0 ≤ (0 : Int) := (by omega)
                have q23 : 0 < x113000_3.size := (by have : (0 : Int) < (x113000_3.size : Int) := of_decide_eq_true asm; omega)
                have hx23 : ∀ h : 0 < x113000_3.size, ((x113000_3[0]'h).toNat : Int) = bt x113000_3 0 := bt_at x113000_3 0
                clear p23
                have qi23 : (0 < (x113000_3.size : Int)) = True := eq_true (of_decide_eq_true asm)
                replace q23 := eq_true q23
                have p25 : 0 ≤ (1 : Int) := (by omega)
                have q25 : 1 < x113000_3.size := (by have : (1 : Int) < (x113000_3.size : Int) := of_decide_eq_true asm; omega)
                have hx25 : ∀ h : 1 < x113000_3.size, ((x113000_3[1]'h).toNat : Int) = bt x113000_3 1 := bt_at x113000_3 1
                clear p25
                have qi25 : (1 < (x113000_3.size : Int)) = True := eq_true (of_decide_eq_true asm)
                replace q25 := eq_true q25
                have p27 : 0 ≤ (2 : Int) := (by omega)
                have q27 : 2 < x113000_3.size := (by have : (2 : Int) < (x113000_3.size : Int) := of_decide_eq_true asm; omega)
                have hx27 : ∀ h : 2 < x113000_3.size, ((x113000_3[2]'h).toNat : Int) = bt x113000_3 2 := bt_at x113000_3 2
                clear p27
                have qi27 : (2 < (x113000_3.size : Int)) = True := eq_true (of_decide_eq_true asm)
                replace q27 := eq_true q27
                have p29 : 0 ≤ (3 : Int) := (by omega)
                have q29 : 3 < x113000_3.size := (by have : (3 : Int) < (x113000_3.size : Int) := of_decide_eq_true asm; omega)
                have hx29 : ∀ h : 3 < x113000_3.size, ((x113000_3[3]'h).toNat : Int) = bt x113000_3 3 := bt_at x113000_3 3
                clear p29
                have qi29 : (3 < (x113000_3.size : Int)) = True := eq_true (of_decide_eq_true asm)
                replace q29 := eq_true q29
                refine start_ (n := 23) (S := fun w' => w'.cell? ⟨gb112, 0, none⟩ = some (.string x113000_3)) (ds := []) #[false, false, false, false, false, false, false, false, false, false, false, false, false, false, false, false, false, false, false, false, false, false, false] (by kernel_rfl) rfl rfl ((blk_cell BK112.out 0).trans rfl) (fun hHeld => ?_); refine with_tabW block_Read_1.tab10 block_Read_1.bits10 (fun HT_ HW_ => ?_)
                generalize wr.drew = w32 at HO_4 HO_5 HO_6 BK110 BK111 BK112 HB hHeld ⊢
                refine pure_ (i := 0) (N := some 18) (v := ?_) (a' := ?_) #[true, false, false, false, false, false, false, false, false, false, false, false, false, false, false, false, false, false, false, false, false, false, false] rfl rfl (any_of HT_.out (by kernel_rfl)) (fun _ _ _ h => h) (Or.inl ⟨by rfl, ?_⟩) ?_ ?_
                rotate_left
                ·intro w'
                 go_simp
                 with_reducible rfl
                rotate_left
                ·simp only [Act.put, List.setIfInBounds_toArray, List.set_cons_zero, List.set_cons_succ, i64_w, i32_w]
                 rfl
                refine take_ (i := 1) (N := some 19) (v := ?_) (a' := ?_) #[true, true, false, false, false, false, false, false, false, false, false, false, false, false, false, false, false, false, false, false, false, false, false] rfl rfl (take_ofW HT_.out HW_.out (by kernel_rfl)) (fun _ _ _ h => h) (Or.inl ⟨by rfl, ?_⟩) hHeld ?_ ?_
                rotate_left
                ·intro w' s0
                 go_simp
                 with_reducible rfl
                rotate_left
                ·simp only [Act.put, List.setIfInBounds_toArray, List.set_cons_zero, List.set_cons_succ, i64_w, i32_w]
                 rfl
                refine take_ (i := 2) (N := some 20) (v := ?_) (a' := ?_) #[true, true, true, false, false, false, false, false, false, false, false, false, false, false, false, false, false, false, false, false, false, false, false] rfl rfl (take_ofW HT_.out HW_.out (by kernel_rfl)) (fun _ _ _ h => h) (Or.inl ⟨by rfl, ?_⟩) hHeld ?_ ?_
                rotate_left
                ·intro w' s0
                 go_simp
                 with_reducible rfl
                rotate_left
                ·simp only [Act.put, List.setIfInBounds_toArray, List.set_cons_zero, List.set_cons_succ, i64_w, i32_w]
                 rfl
                refine pure_ (i := 3) (N := some 21) (v := ?_) (a' := ?_) #[true, true, true, true, false, false, false, false, false, false, false, false, false, false, false, false, false, false, false, false, false, false, false] rfl rfl (any_of HT_.out (by kernel_rfl)) (fun _ _ _ h => h) (Or.inl ⟨by rfl, ?_⟩) ?_ ?_
                rotate_left
                ·intro w'
                 go_simp
                 with_reducible rfl
                rotate_left
                ·simp only [Act.put, List.setIfInBounds_toArray, List.set_cons_zero, List.set_cons_succ, i64_w, i32_w]
                 rfl
                refine pure_ (i := 4) (N := some 22) (v := ?_) (a' := ?_) #[true, true, true, true, true, false, false, false, false, false, false, false, false, false, false, false, false, false, false, false, false, false, false] rfl rfl (any_of HT_.out (by kernel_rfl)) (fun _ _ _ h => h) (Or.inl ⟨by rfl, ?_⟩) ?_ ?_
                rotate_left
                ·intro w'
                 go_simp
                 with_reducible rfl
                rotate_left
                ·simp only [Act.put, List.setIfInBounds_toArray, List.set_cons_zero, List.set_cons_succ, i64_w, i32_w]
                 rfl
                refine take_ (i := 5) (N := some 23) (v := ?_) (a' := ?_) #[true, true, true, true, true, true, false, false, false, false, false, false, false, false, false, false, false, false, false, false, false, false, false] rfl rfl (take_ofW HT_.out HW_.out (by kernel_rfl)) (fun _ _ _ h => h) (Or.inl ⟨by rfl, ?_⟩) hHeld ?_ ?_
                rotate_left
                ·intro w' s0
                 go_simp
                 with_reducible rfl
                rotate_left
                ·simp only [Act.put, List.setIfInBounds_toArray, List.set_cons_zero, List.set_cons_succ, i64_w, i32_w]
                 rfl
                refine take_ (i := 6) (N := some 24) (v := ?_) (a' := ?_) #[true, true, true, true, true, true, true, false, false, false, false, false, false, false, false, false, false, false, false, false, false, false, false] rfl rfl (take_ofW HT_.out HW_.out (by kernel_rfl)) (fun _ _ _ h => h) (Or.inl ⟨by rfl, ?_⟩) hHeld ?_ ?_
                rotate_left
                ·intro w' s0
                 go_simp
                 with_reducible rfl
                rotate_left
                ·simp only [Act.put, List.setIfInBounds_toArray, List.set_cons_zero, List.set_cons_succ, i64_w, i32_w]
                 rfl
                refine pure_ (i := 7) (N := some 25) (v := ?_) (a' := ?_) #[true, true, true, true, true, true, true, true, false, false, false, false, false, false, false, false, false, false, false, false, false, false, false] rfl rfl (any_of HT_.out (by kernel_rfl)) (fun _ _ _ h => h) (Or.inl ⟨by rfl, ?_⟩) ?_ ?_
                rotate_left
                ·intro w'
                 go_simp
                 with_reducible rfl
                rotate_left
                ·simp only [Act.put, List.setIfInBounds_toArray, List.set_cons_zero, List.set_cons_succ, i64_w, i32_w]
                 rfl
                refine pure_ (i := 8) (N := some 26) (v := ?_) (a' := ?_) #[true, true, true, true, true, true, true, true, true, false, false, false, false, false, false, false, false, false, false, false, false, false, false] rfl rfl (any_of HT_.out (by kernel_rfl)) (fun _ _ _ h => h) (Or.inl ⟨by rfl, ?_⟩) ?_ ?_
                rotate_left
                ·intro w'
                 go_simp
                 with_reducible rfl
                rotate_left
                ·simp only [Act.put, List.setIfInBounds_toArray, List.set_cons_zero, List.set_cons_succ, i64_w, i32_w]
                 rfl
                refine pure_ (i := 9) (N := some 27) (v := ?_) (a' := ?_) #[true, true, true, true, true, true, true, true, true, true, false, false, false, false, false, false, false, false, false, false, false, false, false] rfl rfl (any_of HT_.out (by kernel_rfl)) (fun _ _ _ h => h) (Or.inl ⟨by rfl, ?_⟩) ?_ ?_
                rotate_left
                ·intro w'
                 go_simp
                 with_reducible rfl
                rotate_left
                ·simp only [Act.put, List.setIfInBounds_toArray, List.set_cons_zero, List.set_cons_succ, i64_w, i32_w]
                 rfl
                refine take_ (i := 10) (N := some 28) (v := ?_) (a' := ?_) #[true, true, true, true, true, true, true, true, true, true, true, false, false, false, false, false, false, false, false, false, false, false, false] rfl rfl (take_ofW HT_.out HW_.out (by kernel_rfl)) (fun _ _ _ h => h) (Or.inl ⟨by rfl, ?_⟩) hHeld ?_ ?_
                rotate_left
                ·intro w' s0
                 go_simp
                 with_reducible rfl
                rotate_left
                ·simp only [Act.put, List.setIfInBounds_toArray, List.set_cons_zero, List.set_cons_succ, i64_w, i32_w]
                 rfl
                refine take_ (i := 11) (N := some 29) (v := ?_) (a' := ?_) #[true, true, true, true, true, true, true, true, true, true, true, true, false, false, false, false, false, false, false, false, false, false, false] rfl rfl (take_ofW HT_.out HW_.out (by kernel_rfl)) (fun _ _ _ h => h) (Or.inl ⟨by rfl, ?_⟩) hHeld ?_ ?_
                rotate_left
                ·intro w' s0
                 go_simp
                 with_reducible rfl
                rotate_left
                ·simp only [Act.put, List.setIfInBounds_toArray, List.set_cons_zero, List.set_cons_succ, i64_w, i32_w]
                 rfl
                refine pure_ (i := 12) (N := some 30) (v := ?_) (a' := ?_) #[true, true, true, true, true, true, true, true, true, true, true, true, true, false, false, false, false, false, false, false, false, false, false] rfl rfl (any_of HT_.out (by kernel_rfl)) (fun _ _ _ h => h) (Or.inl ⟨by rfl, ?_⟩) ?_ ?_
                rotate_left
                ·intro w'
                 go_simp
                 with_reducible rfl
                rotate_left
                ·simp only [Act.put, List.setIfInBounds_toArray, List.set_cons_zero, List.set_cons_succ, i64_w, i32_w]
                 rfl
                refine pure_ (i := 13) (N := some 31) (v := ?_) (a' := ?_) #[true, true, true, true, true, true, true, true, true, true, true, true, true, true, false, false, false, false, false, false, false, false, false] rfl rfl (any_of HT_.out (by kernel_rfl)) (fun _ _ _ h => h) (Or.inl ⟨by rfl, ?_⟩) ?_ ?_
                rotate_left
                ·intro w'
                 go_simp
                 with_reducible rfl
                rotate_left
                ·simp only [Act.put, List.setIfInBounds_toArray, List.set_cons_zero, List.set_cons_succ, i64_w, i32_w]
                 rfl
                refine pure_ (i := 14) (N := some 32) (v := ?_) (a' := ?_) #[true, true, true, true, true, true, true, true, true, true, true, true, true, true, true, false, false, false, false, false, false, false, false] rfl rfl (any_of HT_.out (by kernel_rfl)) (fun _ _ _ h => h) (Or.inl ⟨by rfl, ?_⟩) ?_ ?_
                rotate_left
                ·intro w'
                 go_simp
                 with_reducible rfl
                rotate_left
                ·simp only [Act.put, List.setIfInBounds_toArray, List.set_cons_zero, List.set_cons_succ, i64_w, i32_w]
                 rfl
                refine take_ (i := 15) (N := some 33) (v := ?_) (a' := ?_) #[true, true, true, true, true, true, true, true, true, true, true, true, true, true, true, true, false, false, false, false, false, false, false] rfl rfl (take_ofW HT_.out HW_.out (by kernel_rfl)) (fun _ _ _ h => h) (Or.inl ⟨by rfl, ?_⟩) hHeld ?_ ?_
                rotate_left
                ·intro w' s0
                 go_simp
                 with_reducible rfl
                rotate_left
                ·simp only [Act.put, List.setIfInBounds_toArray, List.set_cons_zero, List.set_cons_succ, i64_w, i32_w]
                 rfl
                refine take_ (i := 16) (N := some 34) (v := ?_) (a' := ?_) #[true, true, true, true, true, true, true, true, true, true, true, true, true, true, true, true, true, false, false, false, false, false, false] rfl rfl (take_ofW HT_.out HW_.out (by kernel_rfl)) (fun _ _ _ h => h) (Or.inl ⟨by rfl, ?_⟩) hHeld ?_ ?_
                rotate_left
                ·intro w' s0
                 go_simp
                 with_reducible rfl
                rotate_left
                ·simp only [Act.put, List.setIfInBounds_toArray, List.set_cons_zero, List.set_cons_succ, i64_w, i32_w]
                 rfl
                refine pure_ (i := 17) (N := some 35) (v := ?_) (a' := ?_) #[true, true, true, true, true, true, true, true, true, true, true, true, true, true, true, true, true, true, false, false, false, false, false] rfl rfl (any_of HT_.out (by kernel_rfl)) (fun _ _ _ h => h) (Or.inl ⟨by rfl, ?_⟩) ?_ ?_
                rotate_left
                ·intro w'
                 go_simp
                 with_reducible rfl
                rotate_left
                ·simp only [Act.put, List.setIfInBounds_toArray, List.set_cons_zero, List.set_cons_succ, i64_w, i32_w]
                 rfl
                refine pure_ (i := 18) (N := some 36) (v := ?_) (a' := ?_) #[true, true, true, true, true, true, true, true, true, true, true, true, true, true, true, true, true, true, true, false, false, false, false] rfl rfl (any_of HT_.out (by kernel_rfl)) (fun _ _ _ h => h) (Or.inl ⟨by rfl, ?_⟩) ?_ ?_
                rotate_left
                ·intro w'
                 go_simp
                 with_reducible rfl
                rotate_left
                ·simp only [Act.put, List.setIfInBounds_toArray, List.set_cons_zero, List.set_cons_succ, i64_w, i32_w]
                 rfl
                refine pure_ (i := 19) (N := some 37) (v := ?_) (a' := ?_) #[true, true, true, true, true, true, true, true, true, true, true, true, true, true, true, true, true, true, true, true, false, false, false] rfl rfl (any_of HT_.out (by kernel_rfl)) (fun _ _ _ h => h) (Or.inl ⟨by rfl, ?_⟩) ?_ ?_
                rotate_left
                ·intro w'
                 go_simp
                 with_reducible rfl
                rotate_left
                ·simp only [Act.put, List.setIfInBounds_toArray, List.set_cons_zero, List.set_cons_succ, i64_w, i32_w]
                 rfl
                refine one_ (i := 20) (N := some 38) #[true, true, true, true, true, true, true, true, true, true, true, true, true, true, true, true, true, true, true, true, true, false, false] rfl rfl (one_of HT_.out (by kernel_rfl)) (by decide) (fun K hK => ?_)
                refine value_ (w1 := ?_) (v := ?_) (by rfl) rfl ?_ ?_
                rotate_left 2
                ·go_simp
                 constructor
                 ·rfl
                 ·rfl
                refine hK.out _ _ ((blk_cell (blk_alloc BK112.out _) 0).trans rfl) (fun hHeld => ?_)
                clear hK K
                refine norm_ (a' := ?_) ?_ ?_
                rotate_left
                ·show Act.put _ (some 38) _ = _
                 simp only [Act.put, List.setIfInBounds_toArray, List.set_cons_zero, List.set_cons_succ, i64_w, i32_w]
                 rfl
                refine one_ (i := 21) (N := some 39) #[true, true, true, true, true, true, true, true, true, true, true, true, true, true, true, true, true, true, true, true, true, true, false] rfl rfl (one_of HT_.out (by kernel_rfl)) (by decide) (fun K hK => ?_)
                refine Kd.R_append_step (Kd.int .i32) (w0 := Upd w gb112 (.string x113000_3)) B (by rfl) (.tmp 18) (.tmp 38) 61 72 (.int .i32 0) 4 rfl Try.underlying61 info72 rfl (by decide) (by omega) u6 x6_3 (wrap32 (Go.bits .or .u32 (Go.bits .or .u32 (Go.bits .or .u32 ((((bt x113000_3 0) % 4294967296) * 16777216) % 4294967296) ((((bt x113000_3 1) % 4294967296) * 65536) % 4294967296)) ((((bt x113000_3 2) % 4294967296) * 256) % 4294967296)) ((bt x113000_3 3) % 4294967296))) [.int .i32 (wrap32 (Go.bits .or .u32 (Go.bits .or .u32 (Go.bits .or .u32 ((((bt x113000_3 0) % 4294967296) * 16777216) % 4294967296) ((((bt x113000_3 1) % 4294967296) * 65536) % 4294967296)) ((((bt x113000_3 2) % 4294967296) * 256) % 4294967296)) ((bt x113000_3 3) % 4294967296)))] (fun _ => True) (fun _ => False) rfl rfl ?aP (fun _ hk => hk.elim) ?aF ?aO ?aB ?aS ?aL ?_
                (case aP => exact rfl)
                (case aB => exact BB.be belB)
                (case aF => exact (fun _ _ => trivial))
                (case aO => exact (rr HO_6.out))
                (case aS => exact (bb_size (w0 := Upd w gb112 (.string x113000_3)) belB))
                (case aL => have := LMc30.out; omega)
                intro v117 w33 ho hb hg hat
                rw [← Ny116.out] at ho
                have n0_ := Aside0.mk (Kd.R_after (ok := (fun k_ => some k_ ≠ (u5 : Value).ownBlock)) (rr HO_4.out) hg hat)
                have n1_ := Aside0.mk (Kd.S_after (ok := (fun _ => True)) (by (with_reducible repeat (first | apply Kd.S_alloc | apply Kd.S_drewN | apply Kd.S_drew)); exact Kd.S_mono HO_5.out (fun _ hk => ⟨trivial, hk⟩)) hg hat)
                have n2_ := Aside0.mk (blk_grown (g := gb110) (o := .cells #[.int .i64 a0_0, .int .i64 a0_1, .int .i64 a0_2, .int .i64 a0_3, .int .i64 a0_4] 23 (0, 0)) (by (with_reducible repeat (first | refine blk_drewN ?_ _ | refine blk_drew ?_ | refine blk_alloc ?_ _)); exact BK110.out) hg (Kd.R_ne HO_6.out BK110.out (by decide)))
                have n3_ := Aside0.mk (blk_grown (g := gb111) (o := .cells #[.int .i64 a1] 3 (0, 0)) (by (with_reducible repeat (first | refine blk_drewN ?_ _ | refine blk_drew ?_ | refine blk_alloc ?_ _)); exact BK111.out) hg (Kd.R_ne HO_6.out BK111.out (by decide)))
                have n4_ := Aside0.mk (blk_grown (g := gb112) (o := .cells #[.string x113000_3] 9 (0, 0)) (by (with_reducible repeat (first | refine blk_drewN ?_ _ | refine blk_drew ?_ | refine blk_alloc ?_ _)); exact BK112.out) hg (Kd.R_ne HO_6.out BK112.out (by decide)))
                have n5_ := Aside0.mk (BB.mk HB.out.le hb)
                have n6_ := Aside0.mk (ho)
                clear HO_4
                clear HO_5
                clear BK110
                clear BK111
                clear BK112
                clear HB
                clear HO_6
                have HO_4 := n0_
                have HO_5 := n1_
                have BK110 := n2_
                have BK111 := n3_
                have BK112 := n4_
                have HB := n5_
                have HO118 := n6_
                clear n0_ n1_ n2_ n3_ n4_ n5_ n6_
                clear ho hb hg hat
                refine hK.out _ _ ((blk_cell BK112.out 0).trans rfl) (fun hHeld => ?_)
                clear hK K
                refine norm_ (a' := ?_) ?_ ?_
                rotate_left
                ·show Act.put _ (some 39) _ = _
                 simp only [Act.put, List.setIfInBounds_toArray, List.set_cons_zero, List.set_cons_succ, i64_w, i32_w]
                 rfl
                refine pure_ (i := 22) (N := some 6) (v := ?_) (a' := ?_) #[true, true, true, true, true, true, true, true, true, true, true, true, true, true, true, true, true, true, true, true, true, true, true] rfl rfl (any_of HT_.out (by kernel_rfl)) (fun _ _ _ h => h) (Or.inl ⟨by rfl, ?_⟩) ?_ ?_
                rotate_left
                ·intro w'
                 go_simp
                 with_reducible rfl
                rotate_left
                ·simp only [Act.put, List.setIfInBounds_toArray, List.set_cons_zero, List.set_cons_succ, i64_w, i32_w]
                 rfl
                refine done_ (done_of HT_.out (by kernel_rfl)) ?_
                have hnb34 := NB112_110.out
                have hnc34 := NB110_112.out
                have hnb35 := NB112_111.out
                have hnc35 := NB111_112.out
                have hcz36_0 := cv BK112.out 0 (.string x113000_3)
                have hfz36_0 := blk_frozen BK112.out 0
                try go_wp2
                go_roundg k3
                case measure => have := HK1.out; have := HK2.out; have := HK3.out; omega
                case rel => exact ⟨(y116), (wrap64 (x16_3 + 1)), (x113000_3.extract 4 x113000_3.size), rs, H', ⟨by have := HK1.out; have := HK2.out; have := HK3.out; omega⟩, ⟨by (with_reducible repeat (first | apply Kd.R_alloc | apply Kd.R_drewN | apply Kd.R_drew)); exact Kd.R_mono (Kd.R_far (p := ⟨gb112, 0, none⟩) (Kd.R_types HO_4.out BK112.out (by decide)) (fun _ hk => hk.2) (.string (x113000_3.extract 4 x113000_3.size))) (fun _ hk => ⟨hk.1.1, hk.1.2⟩)⟩, ⟨by (with_reducible repeat (first | apply Kd.S_alloc | apply Kd.S_drewN | apply Kd.S_drew)); exact Kd.S_mono (Kd.S_far (p := ⟨gb112, 0, none⟩) (Kd.S_types HO_5.out BK112.out (by decide)) (fun _ hk => hk.2) (.string (x113000_3.extract 4 x113000_3.size))) (fun _ hk => hk.1.2)⟩, ⟨by (with_reducible repeat (first | apply Kd.R_alloc | apply Kd.R_drewN | apply Kd.R_drew)); exact Kd.R_mono (Kd.R_far (p := ⟨gb112, 0, none⟩) (Kd.R_types HO118.out BK112.out (by decide)) (fun _ hk => hk.2) (.string (x113000_3.extract 4 x113000_3.size))) (fun _ hk => trivial)⟩, ⟨by (with_reducible repeat (first | refine blk_drewN ?_ _ | refine blk_drew ?_ | refine blk_alloc ?_ _)); refine blk_far ?_ NB110_112.out _; (with_reducible repeat (first | refine blk_drewN ?_ _ | refine blk_drew ?_ | refine blk_alloc ?_ _)); exact BK110.out⟩, ⟨by (with_reducible repeat (first | refine blk_drewN ?_ _ | refine blk_drew ?_ | refine blk_alloc ?_ _)); refine blk_far ?_ NB111_112.out _; (with_reducible repeat (first | refine blk_drewN ?_ _ | refine blk_drew ?_ | refine blk_alloc ?_ _)); exact BK111.out⟩, ⟨by (with_reducible repeat (first | refine blk_drewN ?_ _ | refine blk_drew ?_ | refine blk_alloc ?_ _)); refine blk_put (cs := #[.string x113000_3]) ?_ 0 _ rfl; (with_reducible repeat (first | refine blk_drewN ?_ _ | refine blk_drew ?_ | refine blk_alloc ?_ _)); exact BK112.out⟩, ⟨by (with_reducible repeat (first | apply bb_drewN | apply bb_drew)); exact bb_put HK2_.out BK112.out belB⟩⟩
               ·rw [if_neg c31] at H
                exact absurd H (by simp)
              ·rw [if_neg c30] at H
               exact absurd H (by simp)
             ·rw [if_neg c28] at H
              exact absurd H (by simp)
            ·rw [if_neg c26] at H
             exact absurd H (by simp)
           ·rw [if_neg c24] at H
            exact absurd H (by simp)
          ·rw [if_neg c22] at H
           exact absurd H (by simp)
         ·rw [if_neg c21] at H
          have c21b0 : decide (x16_3 < a0_1) = false := decide_eq_false c21
          clear c21
          by_cases c37 : x5_2.length < 5864062014805
          ·rw [if_pos c37] at H
           have LMc37 := Aside0.mk c37
           clear c37
           obtain ⟨y119, hy119⟩ : ∃ y_ : List (List Int), y_ = (x5_2 ++ [x6_3]) := ⟨_, rfl⟩
           replace H : (block_Read_1.l1 k3 x4_1 y119 a0_4 x9_1 a1 (wrap64 (x12_2 + 1)) a0_0 a0_1 a0_2 a0_3 a0_4 a1 x113000_3) = some (r1, r2) := by first | (rw [hy119]; with_reducible exact H) | (have H2_ := (Option.bind_some _ _).symm.trans H; rw [hy119]; with_reducible exact H2_) | (have H2_ := (Option.bind_some _ _).symm.trans H; with_reducible exact H2_) | with_reducible exact H | (rw [hy119]; exact H) | exact H
           have Ny119 := Aside0.mk hy119
           clear hy119
           have H' := Aside0.mk H
           clear H
           obtain ⟨Ao39, co39, eo39⟩ := Kd.R_slice HO_6.out
           subst eo39
           go_wp2_with (first | ((with_reducible refine gate_builtin (b := .append) (xs := #[.tmp 43, .tmp 45]) rfl ?_); at_builtin; refine Kd.S_append (Kd.slice 72 (Kd.int .i32)) (w0 := Upd w gb112 (.string x113000_3)) B rfl (.tmp 43) (.tmp 45) 62 61 (.slice none 0 0) 24 rfl Try.underlying62 info61 rfl (by decide) (by omega) u5 x5_2 x6_3 [.slice Ao39 x6_3.length co39] (fun _ => True) (fun k_ => some k_ = (.slice Ao39 x6_3.length co39 : Value).ownBlock) rfl rfl ?aP (fun k_ hk_ => ((Kd.R_mono (ok' := fun k_ => ((fun _ => True)) k_ ∧ some k_ ≠ (u5 : Value).ownBlock) (Kd.R_apart' (HO_6.out) (Kd.S_typed HO_5.out) (by decide)) (fun k_ hk => ⟨trivial, hk.2⟩))).1 k_ hk_.symm) ?aF ?aO ?aB ?aS ?aL ?_; (case aP => exact Kd.M_row (Kd.R_mono (Kd.R_tight rfl (Kd.R_mono (ok' := fun k_ => ((fun _ => True)) k_ ∧ some k_ ≠ (u5 : Value).ownBlock) (Kd.R_apart' (HO_6.out) (Kd.S_typed HO_5.out) (by decide)) (fun k_ hk => ⟨trivial, hk.2⟩))) (fun _ h_ => h_))); (case aB => exact BB.be belB); (case aF => exact (fun _ _ => trivial)); (case aO => exact (by (with_reducible repeat (first | apply Kd.S_alloc | apply Kd.S_drewN | apply Kd.S_drew)); exact Kd.S_mono HO_5.out (fun k_ hk => ⟨trivial, fun e_ => hk e_⟩))); (case aS => exact (bb_size (w0 := Upd w gb112 (.string x113000_3)) belB)); (case aL => have := LMc37.out; omega); intro v120 w38 ho hb hg hat; rw [← Ny119.out] at ho; have n0_ := Aside0.mk (Kd.R_after (ok := (fun k_ => some k_ ≠ (.slice Ao39 x6_3.length co39 : Value).ownBlock)) (by (with_reducible repeat (first | apply Kd.R_alloc | apply Kd.R_drewN | apply Kd.R_drew)); exact Kd.R_mono HO_4.out (fun _ hk => ⟨hk.2, hk.1⟩)) hg hat); have n1_ := Aside0.mk (blk_grown (g := gb110) (o := .cells #[.int .i64 a0_0, .int .i64 a0_1, .int .i64 a0_2, .int .i64 a0_3, .int .i64 a0_4] 23 (0, 0)) (by (with_reducible repeat (first | refine blk_drewN ?_ _ | refine blk_drew ?_ | refine blk_alloc ?_ _)); exact BK110.out) hg (Kd.S_ne HO_5.out BK110.out (by decide))); have n2_ := Aside0.mk (blk_grown (g := gb111) (o := .cells #[.int .i64 a1] 3 (0, 0)) (by (with_reducible repeat (first | refine blk_drewN ?_ _ | refine blk_drew ?_ | refine blk_alloc ?_ _)); exact BK111.out) hg (Kd.S_ne HO_5.out BK111.out (by decide))); have n3_ := Aside0.mk (blk_grown (g := gb112) (o := .cells #[.string x113000_3] 9 (0, 0)) (by (with_reducible repeat (first | refine blk_drewN ?_ _ | refine blk_drew ?_ | refine blk_alloc ?_ _)); exact BK112.out) hg (Kd.S_ne HO_5.out BK112.out (by decide))); have n4_ := Aside0.mk (BB.mk HB.out.le hb); have n5_ := Aside0.mk (ho); clear HO_4; clear BK110; clear BK111; clear BK112; clear HB; clear HO_5; clear HO_6; have HO_4 := n0_; have BK110 := n1_; have BK111 := n2_; have BK112 := n3_; have HB := n4_; have HO121 := n5_; clear n0_ n1_ n2_ n3_ n4_ n5_; clear ho hb hg hat))
           go_roundg k3
           case measure => have := HK1.out; have := HK2.out; have := HK3.out; omega
           case rel => exact ⟨(y119), (wrap64 (x12_2 + 1)), (x113000_3), rs, H', ⟨by have := HK1.out; have := HK2.out; have := HK3.out; omega⟩, ⟨by (with_reducible repeat (first | apply Kd.R_alloc | apply Kd.R_drewN | apply Kd.R_drew)); exact Kd.R_mono HO_4.out (fun _ hk => hk.2)⟩, ⟨by (with_reducible repeat (first | apply Kd.S_alloc | apply Kd.S_drewN | apply Kd.S_drew)); exact HO121.out⟩, ⟨by (with_reducible repeat (first | refine blk_drewN ?_ _ | refine blk_drew ?_ | refine blk_alloc ?_ _)); exact BK110.out⟩, ⟨by (with_reducible repeat (first | refine blk_drewN ?_ _ | refine blk_drew ?_ | refine blk_alloc ?_ _)); exact BK111.out⟩, ⟨by (with_reducible repeat (first | refine blk_drewN ?_ _ | refine blk_drew ?_ | refine blk_alloc ?_ _)); exact BK112.out⟩, ⟨belB⟩⟩
          ·rw [if_neg c37] at H
           exact absurd H (by simp)
      ·rw [if_neg c17] at H
       have c17b0 : decide (x12_2 < a1) = false := decide_eq_false c17
       clear c17
       by_cases c40 : x4_1.length < 5864062014805
       ·rw [if_pos c40] at H
        have LMc40 := Aside0.mk c40
        clear c40
        obtain ⟨y113, hy113⟩ : ∃ y_ : List (List (List Int)), y_ = (x4_1 ++ [x5_2]) := ⟨_, rfl⟩
        replace H : (block_Read_1.l0 k2 y113 a0_4 (wrap64 (x9_1 + 1)) a0_0 a0_1 a0_2 a0_3 a0_4 a1 x113000_2) = some (r1, r2) := by first | (rw [hy113]; with_reducible exact H) | (have H2_ := (Option.bind_some _ _).symm.trans H; rw [hy113]; with_reducible exact H2_) | (have H2_ := (Option.bind_some _ _).symm.trans H; with_reducible exact H2_) | with_reducible exact H | (rw [hy113]; exact H) | exact H
        have Ny113 := Aside0.mk hy113
        clear hy113
        have H' := Aside0.mk H
        clear H
        obtain ⟨Ao42, co42, eo42⟩ := Kd.S_slice HO_5.out
        subst eo42
        go_wp2_with (first | ((with_reducible refine gate_builtin (b := .append) (xs := #[.tmp 48, .tmp 50]) rfl ?_); at_builtin; refine Kd.R_append (Kd.slice 61 (Kd.slice 72 (Kd.int .i32))) (w0 := Upd w gb112 (.string x113000_2)) B rfl (.tmp 48) (.tmp 50) 25 62 (.slice none 0 0) 24 rfl Try.underlying25 info62 rfl (by decide) (by omega) u4 x4_1 x5_2 [.slice Ao42 x5_2.length co42] (fun _ => True) (fun k_ => ((fun _ => True)) k_ ∧ some k_ ≠ (u4 : Value).ownBlock) rfl rfl ?aP (fun _ hk => hk) ?aF ?aO ?aB ?aS ?aL ?_; (case aP => exact Kd.M_row (Kd.R_mono (Kd.R_apart' ((Kd.S_R HO_5.out)) (Kd.R_typed HO_4.out) (by decide)) (fun k_ hk => ⟨trivial, hk.2⟩))); (case aB => exact BB.be belB); (case aF => exact (fun _ _ => trivial)); (case aO => exact (by (with_reducible repeat (first | apply Kd.R_alloc | apply Kd.R_drewN | apply Kd.R_drew)); exact Kd.R_mono HO_4.out (fun _ hk => trivial))); (case aS => exact (bb_size (w0 := Upd w gb112 (.string x113000_2)) belB)); (case aL => have := LMc40.out; omega); intro v114 w41 ho hb hg hat; rw [← Ny113.out] at ho; have n0_ := Aside0.mk (blk_grown (g := gb110) (o := .cells #[.int .i64 a0_0, .int .i64 a0_1, .int .i64 a0_2, .int .i64 a0_3, .int .i64 a0_4] 23 (0, 0)) (by (with_reducible repeat (first | refine blk_drewN ?_ _ | refine blk_drew ?_ | refine blk_alloc ?_ _)); exact BK110.out) hg (Kd.R_ne HO_4.out BK110.out (by decide))); have n1_ := Aside0.mk (blk_grown (g := gb111) (o := .cells #[.int .i64 a1] 3 (0, 0)) (by (with_reducible repeat (first | refine blk_drewN ?_ _ | refine blk_drew ?_ | refine blk_alloc ?_ _)); exact BK111.out) hg (Kd.R_ne HO_4.out BK111.out (by decide))); have n2_ := Aside0.mk (blk_grown (g := gb112) (o := .cells #[.string x113000_2] 9 (0, 0)) (by (with_reducible repeat (first | refine blk_drewN ?_ _ | refine blk_drew ?_ | refine blk_alloc ?_ _)); exact BK112.out) hg (Kd.R_ne HO_4.out BK112.out (by decide))); have n3_ := Aside0.mk (BB.mk HB.out.le hb); have n4_ := Aside0.mk (ho); clear BK110; clear BK111; clear BK112; clear HB; clear HO_4; clear HO_5; have BK110 := n0_; have BK111 := n1_; have BK112 := n2_; have HB := n3_; have HO115 := n4_; clear n0_ n1_ n2_ n3_ n4_; clear ho hb hg hat))
        go_roundg k2
        case measure => have := HK1.out; have := HK2.out; omega
        case rel => exact ⟨(y113), (wrap64 (x9_1 + 1)), (x113000_2), rs, H', ⟨by have := HK1.out; have := HK2.out; omega⟩, ⟨by (with_reducible repeat (first | apply Kd.R_alloc | apply Kd.R_drewN | apply Kd.R_drew)); exact HO115.out⟩, ⟨by (with_reducible repeat (first | refine blk_drewN ?_ _ | refine blk_drew ?_ | refine blk_alloc ?_ _)); exact BK110.out⟩, ⟨by (with_reducible repeat (first | refine blk_drewN ?_ _ | refine blk_drew ?_ | refine blk_alloc ?_ _)); exact BK111.out⟩, ⟨by (with_reducible repeat (first | refine blk_drewN ?_ _ | refine blk_drew ?_ | refine blk_alloc ?_ _)); exact BK112.out⟩, ⟨belB⟩⟩
       ·rw [if_neg c40] at H
        exact absurd H (by simp)
   ·rw [if_neg c13] at H
    have c13b0 : decide (x9_1 < a0_4) = false := decide_eq_false c13
    clear c13
    simp only [Option.some.injEq, Prod.mk.injEq] at H
    obtain ⟨rfl, rfl⟩ := H
    have hnb43 := NB112_110.out
    have hnc43 := NB110_112.out
    have hnb44 := NB112_111.out
    have hnc44 := NB111_112.out
    have hcz45_0 := cv BK112.out 0 (.string x113000_1)
    have hfz45_0 := blk_frozen BK112.out 0
    go_wp2
    go_ret
    exact ⟨_, by first | rfl | (simp; rfl) | (simp [*]; rfl), by (with_reducible repeat (first | apply Kd.R_alloc | apply Kd.R_drewN | apply Kd.R_drew)); exact HO_4.out, BB.be belB⟩
end Go.Proofs.Ytepbebelbcbciaa.Q
