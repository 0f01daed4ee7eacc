/-
  Boxes that stay, and the shapes of the kinds.
-/
import Derived.Test.YtghdimmomnfakaaDoorGiven
import Derived.Test.YtghdimmomnfakaaDoorYx1
set_option linter.unusedVariables false
namespace Go.Proofs.YtghdimmomnfakaaDoor.Gv
open Go.RowKit Go.Proofs.YtghdimmomnfakaaDoorW.PrintWords Go.Proofs.YtghdimmomnfakaaDoorW.PrintLast Go.Proofs.YtghdimmomnfakaaDoorW.PrintMore
/-- a box laid ahead keeps its cells -/
theorem box_cell {w w1 : World} {cs : Array Value} {t : TypeId} (hb : Below (w.alloc (.cells cs t)).heap.size (w.alloc (.cells cs t)) w1) (i : Nat) (v : Value) (hv : cs[i]? = some v) : w1.cell? ⟨w.heap.size, i, none⟩ = some v := by
  rw [hb.cell (by simp)]
  simpa using hv
theorem box_below {w w1 : World} {o : Obj} (hb : Below (w.alloc o).heap.size (w.alloc o) w1) : Below w.heap.size w w1 := ((Below.refl w.heap.size w).alloc (Nat.le_refl _) _).trans (hb.mono (by simp))
theorem box_frozen {w w1 : World} {cs : Array Value} {t : TypeId} (hb : Below (w.alloc (.cells cs t)).heap.size (w.alloc (.cells cs t)) w1) (i : Nat) : w1.frozen? ⟨w.heap.size, i, none⟩ = false := by
  rw [hb.frozen (by simp)]
  simp
theorem keepB {w W w2 : World} (h2 : Below W.heap.size W w2) (h : Below w.heap.size w W) : Below w.heap.size w w2 := below_then h h.size h2
theorem keepC {w w2 : World} (h : Below w.heap.size w w2) {p : Addr} {v : Value} (hc : w.cell? p = some v) : w2.cell? p = some v := (h.cell (World.block_lt_of_cell? w _ hc)).trans hc
/-- a world told by facts alone -/
theorem swap_world {M : World → Prop} {W : World} (p : World → Prop) (hp : p W) (h : ∀ w4, p w4 → M w4) : M W := h W hp
theorem empty_yes {a : ByteArray} (h : a.size = 0) : a.toList.isEmpty = true := by
  rw [ByteArray.toList_eq]
  have : a.data.toList.length = 0 := by simpa using h
  rw [List.length_eq_zero_iff.1 this]; rfl
theorem empty_no {a : ByteArray} (h : ¬ a.size = 0) : a.toList.isEmpty = false := by
  rw [ByteArray.toList_eq]
  cases hl : a.data.toList with
  | nil => exact absurd (by have := congrArg List.length hl; simpa using this) h
  | cons x r => rfl
/-- what is known behind the look at the shapes -/
def After (w : World) (bx : Nat) (a0 : Int) (a1 : ByteArray) (a4 a5 : Int) (s : ByteArray) (b1 b2 b3 : Bool) (w4 : World) : Prop :=
  w4.cell? ⟨w.heap.size, 0, none⟩ = some (.int .i64 a0) ∧ w4.cell? ⟨w.heap.size, 1, none⟩ = some (.string a1) ∧ w4.cell? ⟨w.heap.size, 4, none⟩ = some (.int .i64 a4) ∧ w4.cell? ⟨w.heap.size, 5, none⟩ = some (.int .i64 a5) ∧
  w4.cell? ⟨bx, 0, none⟩ = some (.string s) ∧ w4.cell? ⟨bx, 1, none⟩ = some (.bool b1) ∧ w4.cell? ⟨bx, 2, none⟩ = some (.bool b2) ∧ w4.cell? ⟨bx, 3, none⟩ = some (.bool b3) ∧ Aside0 (Below w.heap.size w w4)
/-- the shapes of the kinds -/
abbrev shapesV : Value := .agg #[.string ⟨#[105, 110, 102, 105, 120]⟩, .bool true, .bool true, .bool true, .string ⟨#[112, 114, 101, 102, 105, 120]⟩, .bool true, .bool false, .bool true, .string ⟨#[112, 111, 115, 116, 102, 105, 120]⟩, .bool true, .bool true, .bool false, .string ⟨#[106, 117, 120, 116, 97, 112, 111, 115, 101]⟩, .bool false, .bool true, .bool true]
theorem shape0 (w : World) : Sem.run Tryd.prog (Instr.index 65 shapesV (.int .i64 (IntKind.i64.wrap 0))) w = .ok (.agg #[.string ⟨#[105, 110, 102, 105, 120]⟩, .bool true, .bool true, .bool true]) w := by kernel_rfl
theorem shape1 (w : World) : Sem.run Tryd.prog (Instr.index 65 shapesV (.int .i64 (IntKind.i64.wrap 1))) w = .ok (.agg #[.string ⟨#[112, 114, 101, 102, 105, 120]⟩, .bool true, .bool false, .bool true]) w := by kernel_rfl
theorem shape2 (w : World) : Sem.run Tryd.prog (Instr.index 65 shapesV (.int .i64 (IntKind.i64.wrap 2))) w = .ok (.agg #[.string ⟨#[112, 111, 115, 116, 102, 105, 120]⟩, .bool true, .bool true, .bool false]) w := by kernel_rfl
theorem shape3 (w : World) : Sem.run Tryd.prog (Instr.index 65 shapesV (.int .i64 (IntKind.i64.wrap 3))) w = .ok (.agg #[.string ⟨#[106, 117, 120, 116, 97, 112, 111, 115, 101]⟩, .bool false, .bool true, .bool true]) w := by kernel_rfl
theorem box_block {w w1 : World} {o : Obj} (hb : Below (w.alloc o).heap.size (w.alloc o) w1) : w1.heap[w.heap.size]? = some o := blk_below (blk_new w o) hb
/-- the shape of a kind, from 0 on -/
def grammar_shapes.f (j : Int) : Option (ByteArray × Bool × Bool × Bool) :=
  if j = 0 then some (⟨#[105, 110, 102, 105, 120]⟩, true, true, true) else if j = 1 then some (⟨#[112, 114, 101, 102, 105, 120]⟩, true, false, true) else if j = 2 then some (⟨#[112, 111, 115, 116, 102, 105, 120]⟩, true, true, false) else if j = 3 then some (⟨#[106, 117, 120, 116, 97, 112, 111, 115, 101]⟩, false, true, true) else none
theorem shape_at {j : Int} {s : ByteArray} {a b c : Bool} (h : grammar_shapes.f j = some (s, a, b, c)) (w : World) : Sem.run Tryd.prog (Instr.index 65 shapesV (.int .i64 j)) w = .ok (.agg #[.string s, .bool a, .bool b, .bool c]) w := by
  unfold grammar_shapes.f at h
  by_cases h0 : j = 0
  · subst h0; rw [if_pos rfl] at h; cases h; kernel_rfl
  · rw [if_neg h0] at h
    by_cases h1 : j = 1
    · subst h1; rw [if_pos rfl] at h; cases h; kernel_rfl
    · rw [if_neg h1] at h
      by_cases h2 : j = 2
      · subst h2; rw [if_pos rfl] at h; cases h; kernel_rfl
      · rw [if_neg h2] at h
        by_cases h3 : j = 3
        · subst h3; rw [if_pos rfl] at h; cases h; kernel_rfl
        · rw [if_neg h3] at h; cases h
end Go.Proofs.YtghdimmomnfakaaDoor.Gv
