/-
  Boxes that stay, and the shapes of the kinds.
-/
import Derived.Test.YtghdimmomnfakaaGreatDoorGiven
import Derived.Test.YtghdimmomnfakaaGreatDoorYx1
import Derived.Test.YtghdimmomnfakaaGreatDoorXx0
set_option linter.unusedVariables false
namespace Go.Proofs.YtghdimmomnfakaaGreatDoor.Gv
open Go.RowKit Go.Proofs.YtghdimmomnfakaaGreatDoorW.PrintWords Go.Proofs.YtghdimmomnfakaaGreatDoorW.PrintLast Go.Proofs.YtghdimmomnfakaaGreatDoorW.PrintMore
/-- a box laid ahead keeps its cells -/
theorem box_cell {w w1 : World} {cs : Array Value} {t : TypeId} (hb : Below (w.alloc (.cells cs t)).heap.size (w.alloc (.cells cs t)) w1) (i : Nat) (v : Value) (hv : cs[i]? = some v) : w1.cell? ⟨w.heap.size, i, none⟩ = some v := by
  rw [hb.cell (by simp)]
  simpa using hv
theorem box_below {w w1 : World} {o : Obj} (hb : Below (w.alloc o).heap.size (w.alloc o) w1) : Below w.heap.size w w1 := ((Below.refl w.heap.size w).alloc (Nat.le_refl _) _).trans (hb.mono (by simp))
theorem box_frozen {w w1 : World} {cs : Array Value} {t : TypeId} (hb : Below (w.alloc (.cells cs t)).heap.size (w.alloc (.cells cs t)) w1) (i : Nat) : w1.frozen? ⟨w.heap.size, i, none⟩ = false := by
  rw [hb.frozen (by simp)]
  simp
theorem keepB {w W w2 : World} (h2 : Below W.heap.size W w2) (h : Below w.heap.size w W) : Below w.heap.size w w2 := below_then h h.size h2
theorem keepC {w w2 : World} (h : Below w.heap.size w w2) {p : Addr} {v : Value} (hc : w.cell? p = some v) : w2.cell? p = some v := (h.cell (World.block_lt_of_cell? w _ hc)).trans hc
/-- a world told by facts alone -/
theorem swap_world {M : World → Prop} {W : World} (p : World → Prop) (hp : p W) (h : ∀ w4, p w4 → M w4) : M W := h W hp
theorem empty_yes {a : ByteArray} (h : a.size = 0) : a.toList.isEmpty = true := by
  rw [ByteArray.toList_eq]
  have : a.data.toList.length = 0 := by simpa using h
  rw [List.length_eq_zero_iff.1 this]; rfl
theorem empty_no {a : ByteArray} (h : ¬ a.size = 0) : a.toList.isEmpty = false := by
  rw [ByteArray.toList_eq]
  cases hl : a.data.toList with
  | nil => exact absurd (by have := congrArg List.length hl; simpa using this) h
  | cons x r => rfl
/-- what is known behind the look at the shapes -/
def After (w : World) (bx : Nat) (a0 : Int) (a1 : ByteArray) (a4 a5 : Int) (s : ByteArray) (b1 b2 b3 : Bool) (w4 : World) : Prop :=
  w4.cell? ⟨w.heap.size, 0, none⟩ = some (.int .i64 a0) ∧ w4.cell? ⟨w.heap.size, 1, none⟩ = some (.string a1) ∧ w4.cell? ⟨w.heap.size, 4, none⟩ = some (.int .i64 a4) ∧ w4.cell? ⟨w.heap.size, 5, none⟩ = some (.int .i64 a5) ∧
  w4.cell? ⟨bx, 0, none⟩ = some (.string s) ∧ w4.cell? ⟨bx, 1, none⟩ = some (.bool b1) ∧ w4.cell? ⟨bx, 2, none⟩ = some (.bool b2) ∧ w4.cell? ⟨bx, 3, none⟩ = some (.bool b3) ∧ Aside0 (Below w.heap.size w w4)
/-- the shapes of the kinds -/
abbrev shapesV : Value := .agg #[.string ⟨#[105, 110, 102, 105, 120]⟩, .bool true, .bool true, .bool true, .string ⟨#[112, 114, 101, 102, 105, 120]⟩, .bool true, .bool false, .bool true, .string ⟨#[112, 111, 115, 116, 102, 105, 120]⟩, .bool true, .bool true, .bool false, .string ⟨#[106, 117, 120, 116, 97, 112, 111, 115, 101]⟩, .bool false, .bool true, .bool true]
theorem shape0 (w : World) : Sem.run Tryz.prog (Instr.index 58 shapesV (.int .i64 (IntKind.i64.wrap 0))) w = .ok (.agg #[.string ⟨#[105, 110, 102, 105, 120]⟩, .bool true, .bool true, .bool true]) w := by kernel_rfl
theorem shape1 (w : World) : Sem.run Tryz.prog (Instr.index 58 shapesV (.int .i64 (IntKind.i64.wrap 1))) w = .ok (.agg #[.string ⟨#[112, 114, 101, 102, 105, 120]⟩, .bool true, .bool false, .bool true]) w := by kernel_rfl
theorem shape2 (w : World) : Sem.run Tryz.prog (Instr.index 58 shapesV (.int .i64 (IntKind.i64.wrap 2))) w = .ok (.agg #[.string ⟨#[112, 111, 115, 116, 102, 105, 120]⟩, .bool true, .bool true, .bool false]) w := by kernel_rfl
theorem shape3 (w : World) : Sem.run Tryz.prog (Instr.index 58 shapesV (.int .i64 (IntKind.i64.wrap 3))) w = .ok (.agg #[.string ⟨#[106, 117, 120, 116, 97, 112, 111, 115, 101]⟩, .bool false, .bool true, .bool true]) w := by kernel_rfl
theorem box_block {w w1 : World} {o : Obj} (hb : Below (w.alloc o).heap.size (w.alloc o) w1) : w1.heap[w.heap.size]? = some o := blk_below (blk_new w o) hb
/-- the shape of a kind, from 0 on -/
def grammar_shapes.f (j : Int) : Option (ByteArray × Bool × Bool × Bool) :=
  if j = 0 then some (⟨#[105, 110, 102, 105, 120]⟩, true, true, true) else if j = 1 then some (⟨#[112, 114, 101, 102, 105, 120]⟩, true, false, true) else if j = 2 then some (⟨#[112, 111, 115, 116, 102, 105, 120]⟩, true, true, false) else if j = 3 then some (⟨#[106, 117, 120, 116, 97, 112, 111, 115, 101]⟩, false, true, true) else none
theorem shape_at {j : Int} {s : ByteArray} {a b c : Bool} (h : grammar_shapes.f j = some (s, a, b, c)) (w : World) : Sem.run Tryz.prog (Instr.index 58 shapesV (.int .i64 j)) w = .ok (.agg #[.string s, .bool a, .bool b, .bool c]) w := by
  unfold grammar_shapes.f at h
  by_cases h0 : j = 0
  · subst h0; rw [if_pos rfl] at h; cases h; kernel_rfl
  · rw [if_neg h0] at h
    by_cases h1 : j = 1
    · subst h1; rw [if_pos rfl] at h; cases h; kernel_rfl
    · rw [if_neg h1] at h
      by_cases h2 : j = 2
      · subst h2; rw [if_pos rfl] at h; cases h; kernel_rfl
      · rw [if_neg h2] at h
        by_cases h3 : j = 3
        · subst h3; rw [if_pos rfl] at h; cases h; kernel_rfl
        · rw [if_neg h3] at h; cases h
end Go.Proofs.YtghdimmomnfakaaGreatDoor.Gv

set_option linter.unusedVariables false
namespace Go.Proofs.YtghdimmomnfakaaGreatDoor.Gv
open Go.RowKit Go.Proofs.YtghdimmomnfakaaGreatDoorW.PrintWords Go.Proofs.YtghdimmomnfakaaGreatDoorW.PrintLast Go.Proofs.YtghdimmomnfakaaGreatDoorW.PrintMore
attribute [local go_sem] max2_int min2_int max_two min_two
/-- what is asked of the numbers -/
def numsB (kd l r : Int) : Bool := (decide (0 ≤ min l r) && decide (max l r ≤ 101)) && ((decide (kd ≠ 2) || decide (l = 0)) && (decide (kd ≠ 3) || decide (r = 0)))
def grammar_proper.f (k : Nat) (a0 : Int) (a1 a2 : ByteArray) (a3 a4 a5 : Int) : Option Bool :=
  if a0 < 1 then some false else if 4 < a0 then some false else if nameB a2 = false then some false else if a3 < 1 then some false else if 100 < a3 then some false else
  if a0 = 4 then (if a1.size = 0 then some (numsB a0 a4 a5) else some false) else (if a1.size = 0 then some false else (Go.Proofs.YtghdimmomnfakaaGreatDoor.Y.node_Symbol.f k a1).bind fun b => if b = true then some (numsB a0 a4 a5) else some false)
set_option maxHeartbeats 4000000 in
set_option maxRecDepth 1000000 in
theorem grammar_proper.calls (k : Nat) (a0 : Int) (a1 a2 : ByteArray) (a3 a4 a5 : Int) (r : Bool) (w : World) (hG : Gw w) (h : grammar_proper.f k a0 a1 a2 a3 a4 a5 = some r) :
    Calls Tryz.prog 21 #[.agg #[.int .i64 a0, .string a1, .string a2, .int .i64 a3, .int .i64 a4, .int .i64 a5]] w fun e w' => e = .returned (.bool r) ∧ Below w.heap.size w w' := by
  have HH := Aside0.mk h
  have HG := Aside0.mk hG
  clear h hG
  go_enter Tryz.func21, Tryz.ntmps21
  by_cases c1 : a0 < 1
  · have h := HH.out
    unfold grammar_proper.f at h
    rw [if_pos c1] at h
    obtain rfl := Option.some.inj h
    clear HH h
    have k1 : decide (a0 < 1) = true := decide_eq_true c1
    clear c1
    go_wp2
    go_ret
    exact ⟨rfl, (Below.refl _ _).alloc (Nat.le_refl _) _⟩
  by_cases c2 : 4 < a0
  · have h := HH.out
    unfold grammar_proper.f at h
    rw [if_neg c1, if_pos c2] at h
    obtain rfl := Option.some.inj h
    clear HH h
    have k1 : decide (a0 < 1) = false := decide_eq_false c1
    have k2 : decide (4 < a0) = true := decide_eq_true c2
    clear c1 c2
    go_wp2
    go_ret
    exact ⟨rfl, (Below.refl _ _).alloc (Nat.le_refl _) _⟩
  have k1 : decide (a0 < 1) = false := decide_eq_false c1
  have k2 : decide (4 < a0) = false := decide_eq_false c2
  have name : ∀ (b : Bool), nameB a2 = b → Calls Tryz.prog 38 #[.string a2] (w.alloc (.cells #[.int .i64 a0, .string a1, .string a2, .int .i64 a3, .int .i64 a4, .int .i64 a5] 31)) fun e w1 => e = .returned (.bool b) ∧ w.heap.size < w1.heap.size ∧ w1.cell? ⟨w.heap.size, 0, none⟩ = some (.int .i64 a0) ∧ w1.cell? ⟨w.heap.size, 1, none⟩ = some (.string a1) ∧ w1.cell? ⟨w.heap.size, 3, none⟩ = some (.int .i64 a3) ∧ w1.cell? ⟨w.heap.size, 4, none⟩ = some (.int .i64 a4) ∧ w1.cell? ⟨w.heap.size, 5, none⟩ = some (.int .i64 a5) ∧ Aside0 (Below w.heap.size w w1) := fun b hb =>
    (grammar_name.calls a2 b _ (congrArg some hb)).mono fun e w1 ⟨he, h1⟩ => ⟨he, by have := h1.size; simp at this; omega, box_cell h1 0 _ rfl, box_cell h1 1 _ rfl, box_cell h1 3 _ rfl, box_cell h1 4 _ rfl, box_cell h1 5 _ rfl, ⟨box_below h1⟩⟩
  cases hn : nameB a2 with
  | false =>
    have h := HH.out
    unfold grammar_proper.f at h
    rw [if_neg c1, if_neg c2, if_pos hn] at h
    obtain rfl := Option.some.inj h
    have name := name _ hn
    clear HH h c1 c2 hn
    go_wp2_with (go_at_call 38; refine name.mono ?_; rintro e w1 ⟨rfl, hs1, x0, x1, x3, x4, x5, B1⟩)
    go_ret
    exact ⟨rfl, B1.out⟩
  | true =>
    have name := name _ hn
    by_cases c3 : a3 < 1
    · have h := HH.out
      unfold grammar_proper.f at h
      rw [if_neg c1, if_neg c2, if_neg (by rw [hn]; simp), if_pos c3] at h
      obtain rfl := Option.some.inj h
      have k3 : decide (a3 < 1) = true := decide_eq_true c3
      clear HH h c1 c2 hn c3
      go_wp2_with (go_at_call 38; refine name.mono ?_; rintro e w1 ⟨rfl, hs1, x0, x1, x3, x4, x5, B1⟩)
      go_ret
      exact ⟨rfl, B1.out⟩
    by_cases c4 : 100 < a3
    · have h := HH.out
      unfold grammar_proper.f at h
      rw [if_neg c1, if_neg c2, if_neg (by rw [hn]; simp), if_neg c3, if_pos c4] at h
      obtain rfl := Option.some.inj h
      have k3 : decide (a3 < 1) = false := decide_eq_false c3
      have k4 : decide (100 < a3) = true := decide_eq_true c4
      clear HH h c1 c2 hn c3 c4
      go_wp2_with (go_at_call 38; refine name.mono ?_; rintro e w1 ⟨rfl, hs1, x0, x1, x3, x4, x5, B1⟩)
      go_ret
      exact ⟨rfl, B1.out⟩
    have k3 : decide (a3 < 1) = false := decide_eq_false c3
    have k4 : decide (100 < a3) = false := decide_eq_false c4
    have HH2 : Aside0 ((if a0 = 4 then (if a1.size = 0 then some (numsB a0 a4 a5) else some false) else (if a1.size = 0 then some false else (Go.Proofs.YtghdimmomnfakaaGreatDoor.Y.node_Symbol.f k a1).bind fun b => if b = true then some (numsB a0 a4 a5) else some false)) = some r) := ⟨by
      have h := HH.out
      unfold grammar_proper.f at h
      rw [if_neg c1, if_neg c2, if_neg (by rw [hn]; simp), if_neg c3, if_neg c4] at h
      exact h⟩
    clear HH hn c3 c4
    rcases (by omega : a0 = 1 ∨ a0 = 2 ∨ a0 = 3 ∨ a0 = 4) with rfl | rfl | rfl | rfl
    · have ix := shape0
      clear k1 k2 c1 c2
      go_wp2_with (go_at_call 38; refine name.mono ?_; rintro e w1 ⟨rfl, hs1, x0, x1, x3, x4, x5, B1⟩)
      have hs5 : ¬ w.heap.size = w1.heap.size := Nat.ne_of_lt hs1
      have hs6 : ¬ w1.heap.size = w.heap.size := fun e => hs5 e.symm
      generalize hX : Exit.then _ _ = X
      have key : ∀ bx w4, (After w bx 1 a1 a4 a5 ⟨#[105, 110, 102, 105, 120]⟩ true true true) w4 → X .normal { tmps := #[.agg #[.int .i64 1, .string a1, .string a2, .int .i64 a3, .int .i64 a4, .int .i64 a5], .pointer (some ⟨w.heap.size, 0, none⟩), .bool false, .pointer (some ⟨bx, 0, none⟩), undef, undef, .pointer (some ⟨w.heap.size, 0, none⟩), .int .i64 1, .bool false, .bool false, .pointer (some ⟨w.heap.size, 0, none⟩), .int .i64 1, .bool false, .bool false, .bool false, .pointer (some ⟨w.heap.size, 2, none⟩), .string a2, .bool true, .bool false, .bool false, .bool false, .pointer (some ⟨w.heap.size, 3, none⟩), .int .i64 a3, .bool false, .bool false, .bool false, .pointer (some ⟨w.heap.size, 3, none⟩), .int .i64 a3, .bool false, .bool false, shapesV, .pointer (some ⟨w.heap.size, 0, none⟩), .int .i64 1, .int .i64 (IntKind.i64.wrap 0), .agg #[.string ⟨#[105, 110, 102, 105, 120]⟩, .bool true, .bool true, .bool true], undef, undef, undef, undef, undef, undef, undef, undef, undef, undef, undef, undef, undef, undef, undef, undef, undef, undef, undef, undef, undef, undef, undef, undef, undef, undef, undef, undef, undef, undef, undef, undef, undef, undef, undef, undef, undef, undef, undef, undef, undef, undef, undef, undef, undef, undef, undef, undef, undef, undef], defers := [] } w4 := by
        intro bx w4 hA
        rw [← hX]
        obtain ⟨r0, r1, r4, r5, s0, s1, s2, s3, B4⟩ := hA
        clear B1 x0 x1 x3 x4 x5 name k3 k4 hs5 hs6 ix
        have hr := HH2.out
        rw [if_neg (by decide)] at hr
        by_cases he : a1.size = 0
        · rw [if_pos he] at hr
          obtain rfl := Option.some.inj hr
          have k5 := empty_yes he
          clear HH2 he
          go_wp2
          go_ret
          exact ⟨rfl, B4.out⟩
        · rw [if_neg he] at hr
          have k5 := empty_no he
          cases hs : Go.Proofs.YtghdimmomnfakaaGreatDoor.Y.node_Symbol.f k a1 with
          | none => rw [hs] at hr; cases hr
          | some b =>
            rw [hs, Option.bind_some] at hr
            have symb := Go.Proofs.YtghdimmomnfakaaGreatDoor.Y.node_Symbol.calls k a1 b w4 (Gw.below HG.out B4.out) hs
            have HR := Aside0.mk hr
            clear HH2 he hs hr
            cases b with
            | false =>
              obtain rfl := Option.some.inj HR.out
              go_wp2_with (go_at_call 39; refine symb.mono ?_; rintro e w5 ⟨rfl, hb5⟩; have B5 := Aside0.mk (keepB hb5 B4.out); clear hb5)
              go_ret
              exact ⟨rfl, B5.out⟩
            | true =>
              have HR2 := Aside0.mk (Option.some.inj HR.out)
              clear HR
              go_wp2_with (go_at_call 39; refine symb.mono ?_; rintro e w5 ⟨rfl, hb5⟩; have t4 := keepC hb5 r4; have t5 := keepC hb5 r5; have u2 := keepC hb5 s2; have u3 := keepC hb5 s3; have B5 := Aside0.mk (keepB hb5 B4.out); clear hb5 r4 r5 s2 s3)
              go_quiet (fail)
              go_wp2
              all_goals go_ret
              all_goals (refine ⟨?_, pw_below_drewN B5.out _⟩; rw [← HR2.out]; first | (simp [numsB, *]; done) | (simp [numsB, *]; omega) | (have e0 : (a5 == 0) = numsB 1 a4 a5 := by (have e1 : 0 ≤ min a4 a5 := by omega); (have e2 : max a4 a5 ≤ 101 := by omega); unfold numsB; rw [decide_eq_true e1, decide_eq_true e2]; by_cases e3 : a4 = 0 <;> by_cases e4 : a5 = 0 <;> simp [e3, e4]); exact congrArg (fun b => Ending.returned (Value.bool b)) e0)
      have KEY := Aside0.mk key
      clear key
      subst hX
      go_region_with (go_at_call 25; refine (Go.Proofs.YtghdimmomnfakaaGreatDoor.Y.grammar_shapes.calls _ _ _ _ _ _ _ _ _ _ _ _ _ _ _ _ _ rfl).mono ?_; rintro e w2 ⟨rfl, hb2⟩; (try (have z0 : w2.cell? ⟨w1.heap.size, 0, none⟩ = some (.string ⟨#[]⟩) := box_cell (w := w1.drew) hb2 0 _ rfl; have z1 : w2.cell? ⟨w1.heap.size, 1, none⟩ = some (.bool false) := box_cell (w := w1.drew) hb2 1 _ rfl; have z2 : w2.cell? ⟨w1.heap.size, 2, none⟩ = some (.bool false) := box_cell (w := w1.drew) hb2 2 _ rfl; have z3 : w2.cell? ⟨w1.heap.size, 3, none⟩ = some (.bool false) := box_cell (w := w1.drew) hb2 3 _ rfl; have q0 : w2.frozen? ⟨w1.heap.size, 0, none⟩ = false := box_frozen (w := w1.drew) hb2 0; have q1 : w2.frozen? ⟨w1.heap.size, 1, none⟩ = false := box_frozen (w := w1.drew) hb2 1; have q2 : w2.frozen? ⟨w1.heap.size, 2, none⟩ = false := box_frozen (w := w1.drew) hb2 2; have q3 : w2.frozen? ⟨w1.heap.size, 3, none⟩ = false := box_frozen (w := w1.drew) hb2 3)); have b2 := keepB hb2 (w := w1) (by first | exact (Below.refl _ _).drew | exact ((Below.refl _ _).drew).alloc (Nat.le_refl _) _); clear hb2; have y0 := keepC b2 x0; have y1 := keepC b2 x1; have y3 := keepC b2 x3; have y4 := keepC b2 x4; have y5 := keepC b2 x5; have hs2 : w.heap.size < w2.heap.size := Nat.lt_of_lt_of_le hs1 b2.size; have hs3 : ¬ w.heap.size = w2.heap.size := Nat.ne_of_lt hs2; have hs4 : ¬ w2.heap.size = w.heap.size := fun e => hs3 e.symm; have B2 := Aside0.mk b2; clear b2)
      all_goals (
        have B12 := keepB B2.out B1.out
        clear B1 B2 x0 x1 x3 x4 x5 name k3 k4
        first
        | (refine KEY.out w2.heap.size _ ⟨?_, ?_, ?_, ?_, ?_, ?_, ?_, ?_, ⟨B12.alloc B12.size _⟩⟩ <;> go_simp)
        | (refine KEY.out w1.heap.size _ ⟨?_, ?_, ?_, ?_, ?_, ?_, ?_, ?_, ⟨(((B12.setCell (Nat.le_of_lt hs1) _).setCell (Nat.le_of_lt hs1) _).setCell (Nat.le_of_lt hs1) _).setCell (Nat.le_of_lt hs1) _⟩⟩ <;> go_simp))
    · have ix := shape1
      clear k1 k2 c1 c2
      go_wp2_with (go_at_call 38; refine name.mono ?_; rintro e w1 ⟨rfl, hs1, x0, x1, x3, x4, x5, B1⟩)
      have hs5 : ¬ w.heap.size = w1.heap.size := Nat.ne_of_lt hs1
      have hs6 : ¬ w1.heap.size = w.heap.size := fun e => hs5 e.symm
      generalize hX : Exit.then _ _ = X
      have key : ∀ bx w4, (After w bx 2 a1 a4 a5 ⟨#[112, 114, 101, 102, 105, 120]⟩ true false true) w4 → X .normal { tmps := #[.agg #[.int .i64 2, .string a1, .string a2, .int .i64 a3, .int .i64 a4, .int .i64 a5], .pointer (some ⟨w.heap.size, 0, none⟩), .bool false, .pointer (some ⟨bx, 0, none⟩), undef, undef, .pointer (some ⟨w.heap.size, 0, none⟩), .int .i64 2, .bool false, .bool false, .pointer (some ⟨w.heap.size, 0, none⟩), .int .i64 2, .bool false, .bool false, .bool false, .pointer (some ⟨w.heap.size, 2, none⟩), .string a2, .bool true, .bool false, .bool false, .bool false, .pointer (some ⟨w.heap.size, 3, none⟩), .int .i64 a3, .bool false, .bool false, .bool false, .pointer (some ⟨w.heap.size, 3, none⟩), .int .i64 a3, .bool false, .bool false, shapesV, .pointer (some ⟨w.heap.size, 0, none⟩), .int .i64 2, .int .i64 (IntKind.i64.wrap 1), .agg #[.string ⟨#[112, 114, 101, 102, 105, 120]⟩, .bool true, .bool false, .bool true], undef, undef, undef, undef, undef, undef, undef, undef, undef, undef, undef, undef, undef, undef, undef, undef, undef, undef, undef, undef, undef, undef, undef, undef, undef, undef, undef, undef, undef, undef, undef, undef, undef, undef, undef, undef, undef, undef, undef, undef, undef, undef, undef, undef, undef, undef, undef, undef, undef, undef], defers := [] } w4 := by
        intro bx w4 hA
        rw [← hX]
        obtain ⟨r0, r1, r4, r5, s0, s1, s2, s3, B4⟩ := hA
        clear B1 x0 x1 x3 x4 x5 name k3 k4 hs5 hs6 ix
        have hr := HH2.out
        rw [if_neg (by decide)] at hr
        by_cases he : a1.size = 0
        · rw [if_pos he] at hr
          obtain rfl := Option.some.inj hr
          have k5 := empty_yes he
          clear HH2 he
          go_wp2
          go_ret
          exact ⟨rfl, B4.out⟩
        · rw [if_neg he] at hr
          have k5 := empty_no he
          cases hs : Go.Proofs.YtghdimmomnfakaaGreatDoor.Y.node_Symbol.f k a1 with
          | none => rw [hs] at hr; cases hr
          | some b =>
            rw [hs, Option.bind_some] at hr
            have symb := Go.Proofs.YtghdimmomnfakaaGreatDoor.Y.node_Symbol.calls k a1 b w4 (Gw.below HG.out B4.out) hs
            have HR := Aside0.mk hr
            clear HH2 he hs hr
            cases b with
            | false =>
              obtain rfl := Option.some.inj HR.out
              go_wp2_with (go_at_call 39; refine symb.mono ?_; rintro e w5 ⟨rfl, hb5⟩; have B5 := Aside0.mk (keepB hb5 B4.out); clear hb5)
              go_ret
              exact ⟨rfl, B5.out⟩
            | true =>
              have HR2 := Aside0.mk (Option.some.inj HR.out)
              clear HR
              go_wp2_with (go_at_call 39; refine symb.mono ?_; rintro e w5 ⟨rfl, hb5⟩; have t4 := keepC hb5 r4; have t5 := keepC hb5 r5; have u2 := keepC hb5 s2; have u3 := keepC hb5 s3; have B5 := Aside0.mk (keepB hb5 B4.out); clear hb5 r4 r5 s2 s3)
              go_quiet (fail)
              go_wp2
              all_goals go_ret
              all_goals (refine ⟨?_, pw_below_drewN B5.out _⟩; rw [← HR2.out]; first | (simp [numsB, *]; done) | (simp [numsB, *]; omega) | (have e0 : (a4 == 0) = numsB 2 a4 a5 := by (have e1 : 0 ≤ min a4 a5 := by omega); (have e2 : max a4 a5 ≤ 101 := by omega); unfold numsB; rw [decide_eq_true e1, decide_eq_true e2]; by_cases e3 : a4 = 0 <;> by_cases e4 : a5 = 0 <;> simp [e3, e4]); exact congrArg (fun b => Ending.returned (Value.bool b)) e0)
      have KEY := Aside0.mk key
      clear key
      subst hX
      go_region_with (go_at_call 25; refine (Go.Proofs.YtghdimmomnfakaaGreatDoor.Y.grammar_shapes.calls _ _ _ _ _ _ _ _ _ _ _ _ _ _ _ _ _ rfl).mono ?_; rintro e w2 ⟨rfl, hb2⟩; (try (have z0 : w2.cell? ⟨w1.heap.size, 0, none⟩ = some (.string ⟨#[]⟩) := box_cell (w := w1.drew) hb2 0 _ rfl; have z1 : w2.cell? ⟨w1.heap.size, 1, none⟩ = some (.bool false) := box_cell (w := w1.drew) hb2 1 _ rfl; have z2 : w2.cell? ⟨w1.heap.size, 2, none⟩ = some (.bool false) := box_cell (w := w1.drew) hb2 2 _ rfl; have z3 : w2.cell? ⟨w1.heap.size, 3, none⟩ = some (.bool false) := box_cell (w := w1.drew) hb2 3 _ rfl; have q0 : w2.frozen? ⟨w1.heap.size, 0, none⟩ = false := box_frozen (w := w1.drew) hb2 0; have q1 : w2.frozen? ⟨w1.heap.size, 1, none⟩ = false := box_frozen (w := w1.drew) hb2 1; have q2 : w2.frozen? ⟨w1.heap.size, 2, none⟩ = false := box_frozen (w := w1.drew) hb2 2; have q3 : w2.frozen? ⟨w1.heap.size, 3, none⟩ = false := box_frozen (w := w1.drew) hb2 3)); have b2 := keepB hb2 (w := w1) (by first | exact (Below.refl _ _).drew | exact ((Below.refl _ _).drew).alloc (Nat.le_refl _) _); clear hb2; have y0 := keepC b2 x0; have y1 := keepC b2 x1; have y3 := keepC b2 x3; have y4 := keepC b2 x4; have y5 := keepC b2 x5; have hs2 : w.heap.size < w2.heap.size := Nat.lt_of_lt_of_le hs1 b2.size; have hs3 : ¬ w.heap.size = w2.heap.size := Nat.ne_of_lt hs2; have hs4 : ¬ w2.heap.size = w.heap.size := fun e => hs3 e.symm; have B2 := Aside0.mk b2; clear b2)
      all_goals (
        have B12 := keepB B2.out B1.out
        clear B1 B2 x0 x1 x3 x4 x5 name k3 k4
        first
        | (refine KEY.out w2.heap.size _ ⟨?_, ?_, ?_, ?_, ?_, ?_, ?_, ?_, ⟨B12.alloc B12.size _⟩⟩ <;> go_simp)
        | (refine KEY.out w1.heap.size _ ⟨?_, ?_, ?_, ?_, ?_, ?_, ?_, ?_, ⟨(((B12.setCell (Nat.le_of_lt hs1) _).setCell (Nat.le_of_lt hs1) _).setCell (Nat.le_of_lt hs1) _).setCell (Nat.le_of_lt hs1) _⟩⟩ <;> go_simp))
    · have ix := shape2
      clear k1 k2 c1 c2
      go_wp2_with (go_at_call 38; refine name.mono ?_; rintro e w1 ⟨rfl, hs1, x0, x1, x3, x4, x5, B1⟩)
      have hs5 : ¬ w.heap.size = w1.heap.size := Nat.ne_of_lt hs1
      have hs6 : ¬ w1.heap.size = w.heap.size := fun e => hs5 e.symm
      generalize hX : Exit.then _ _ = X
      have key : ∀ bx w4, (After w bx 3 a1 a4 a5 ⟨#[112, 111, 115, 116, 102, 105, 120]⟩ true true false) w4 → X .normal { tmps := #[.agg #[.int .i64 3, .string a1, .string a2, .int .i64 a3, .int .i64 a4, .int .i64 a5], .pointer (some ⟨w.heap.size, 0, none⟩), .bool false, .pointer (some ⟨bx, 0, none⟩), undef, undef, .pointer (some ⟨w.heap.size, 0, none⟩), .int .i64 3, .bool false, .bool false, .pointer (some ⟨w.heap.size, 0, none⟩), .int .i64 3, .bool false, .bool false, .bool false, .pointer (some ⟨w.heap.size, 2, none⟩), .string a2, .bool true, .bool false, .bool false, .bool false, .pointer (some ⟨w.heap.size, 3, none⟩), .int .i64 a3, .bool false, .bool false, .bool false, .pointer (some ⟨w.heap.size, 3, none⟩), .int .i64 a3, .bool false, .bool false, shapesV, .pointer (some ⟨w.heap.size, 0, none⟩), .int .i64 3, .int .i64 (IntKind.i64.wrap 2), .agg #[.string ⟨#[112, 111, 115, 116, 102, 105, 120]⟩, .bool true, .bool true, .bool false], undef, undef, undef, undef, undef, undef, undef, undef, undef, undef, undef, undef, undef, undef, undef, undef, undef, undef, undef, undef, undef, undef, undef, undef, undef, undef, undef, undef, undef, undef, undef, undef, undef, undef, undef, undef, undef, undef, undef, undef, undef, undef, undef, undef, undef, undef, undef, undef, undef, undef], defers := [] } w4 := by
        intro bx w4 hA
        rw [← hX]
        obtain ⟨r0, r1, r4, r5, s0, s1, s2, s3, B4⟩ := hA
        clear B1 x0 x1 x3 x4 x5 name k3 k4 hs5 hs6 ix
        have hr := HH2.out
        rw [if_neg (by decide)] at hr
        by_cases he : a1.size = 0
        · rw [if_pos he] at hr
          obtain rfl := Option.some.inj hr
          have k5 := empty_yes he
          clear HH2 he
          go_wp2
          go_ret
          exact ⟨rfl, B4.out⟩
        · rw [if_neg he] at hr
          have k5 := empty_no he
          cases hs : Go.Proofs.YtghdimmomnfakaaGreatDoor.Y.node_Symbol.f k a1 with
          | none => rw [hs] at hr; cases hr
          | some b =>
            rw [hs, Option.bind_some] at hr
            have symb := Go.Proofs.YtghdimmomnfakaaGreatDoor.Y.node_Symbol.calls k a1 b w4 (Gw.below HG.out B4.out) hs
            have HR := Aside0.mk hr
            clear HH2 he hs hr
            cases b with
            | false =>
              obtain rfl := Option.some.inj HR.out
              go_wp2_with (go_at_call 39; refine symb.mono ?_; rintro e w5 ⟨rfl, hb5⟩; have B5 := Aside0.mk (keepB hb5 B4.out); clear hb5)
              go_ret
              exact ⟨rfl, B5.out⟩
            | true =>
              have HR2 := Aside0.mk (Option.some.inj HR.out)
              clear HR
              go_wp2_with (go_at_call 39; refine symb.mono ?_; rintro e w5 ⟨rfl, hb5⟩; have t4 := keepC hb5 r4; have t5 := keepC hb5 r5; have u2 := keepC hb5 s2; have u3 := keepC hb5 s3; have B5 := Aside0.mk (keepB hb5 B4.out); clear hb5 r4 r5 s2 s3)
              go_quiet (fail)
              go_wp2
              all_goals go_ret
              all_goals (refine ⟨?_, pw_below_drewN B5.out _⟩; rw [← HR2.out]; first | (simp [numsB, *]; done) | (simp [numsB, *]; omega) | (have e0 : (a5 == 0) = numsB 3 a4 a5 := by (have e1 : 0 ≤ min a4 a5 := by omega); (have e2 : max a4 a5 ≤ 101 := by omega); unfold numsB; rw [decide_eq_true e1, decide_eq_true e2]; by_cases e3 : a4 = 0 <;> by_cases e4 : a5 = 0 <;> simp [e3, e4]); exact congrArg (fun b => Ending.returned (Value.bool b)) e0)
      have KEY := Aside0.mk key
      clear key
      subst hX
      go_region_with (go_at_call 25; refine (Go.Proofs.YtghdimmomnfakaaGreatDoor.Y.grammar_shapes.calls _ _ _ _ _ _ _ _ _ _ _ _ _ _ _ _ _ rfl).mono ?_; rintro e w2 ⟨rfl, hb2⟩; (try (have z0 : w2.cell? ⟨w1.heap.size, 0, none⟩ = some (.string ⟨#[]⟩) := box_cell (w := w1.drew) hb2 0 _ rfl; have z1 : w2.cell? ⟨w1.heap.size, 1, none⟩ = some (.bool false) := box_cell (w := w1.drew) hb2 1 _ rfl; have z2 : w2.cell? ⟨w1.heap.size, 2, none⟩ = some (.bool false) := box_cell (w := w1.drew) hb2 2 _ rfl; have z3 : w2.cell? ⟨w1.heap.size, 3, none⟩ = some (.bool false) := box_cell (w := w1.drew) hb2 3 _ rfl; have q0 : w2.frozen? ⟨w1.heap.size, 0, none⟩ = false := box_frozen (w := w1.drew) hb2 0; have q1 : w2.frozen? ⟨w1.heap.size, 1, none⟩ = false := box_frozen (w := w1.drew) hb2 1; have q2 : w2.frozen? ⟨w1.heap.size, 2, none⟩ = false := box_frozen (w := w1.drew) hb2 2; have q3 : w2.frozen? ⟨w1.heap.size, 3, none⟩ = false := box_frozen (w := w1.drew) hb2 3)); have b2 := keepB hb2 (w := w1) (by first | exact (Below.refl _ _).drew | exact ((Below.refl _ _).drew).alloc (Nat.le_refl _) _); clear hb2; have y0 := keepC b2 x0; have y1 := keepC b2 x1; have y3 := keepC b2 x3; have y4 := keepC b2 x4; have y5 := keepC b2 x5; have hs2 : w.heap.size < w2.heap.size := Nat.lt_of_lt_of_le hs1 b2.size; have hs3 : ¬ w.heap.size = w2.heap.size := Nat.ne_of_lt hs2; have hs4 : ¬ w2.heap.size = w.heap.size := fun e => hs3 e.symm; have B2 := Aside0.mk b2; clear b2)
      all_goals (
        have B12 := keepB B2.out B1.out
        clear B1 B2 x0 x1 x3 x4 x5 name k3 k4
        first
        | (refine KEY.out w2.heap.size _ ⟨?_, ?_, ?_, ?_, ?_, ?_, ?_, ?_, ⟨B12.alloc B12.size _⟩⟩ <;> go_simp)
        | (refine KEY.out w1.heap.size _ ⟨?_, ?_, ?_, ?_, ?_, ?_, ?_, ?_, ⟨(((B12.setCell (Nat.le_of_lt hs1) _).setCell (Nat.le_of_lt hs1) _).setCell (Nat.le_of_lt hs1) _).setCell (Nat.le_of_lt hs1) _⟩⟩ <;> go_simp))
    · have ix := shape3
      clear k1 k2 c1 c2
      go_wp2_with (go_at_call 38; refine name.mono ?_; rintro e w1 ⟨rfl, hs1, x0, x1, x3, x4, x5, B1⟩)
      have hs5 : ¬ w.heap.size = w1.heap.size := Nat.ne_of_lt hs1
      have hs6 : ¬ w1.heap.size = w.heap.size := fun e => hs5 e.symm
      generalize hX : Exit.then _ _ = X
      have key : ∀ bx w4, (After w bx 4 a1 a4 a5 ⟨#[106, 117, 120, 116, 97, 112, 111, 115, 101]⟩ false true true) w4 → X .normal { tmps := #[.agg #[.int .i64 4, .string a1, .string a2, .int .i64 a3, .int .i64 a4, .int .i64 a5], .pointer (some ⟨w.heap.size, 0, none⟩), .bool false, .pointer (some ⟨bx, 0, none⟩), undef, undef, .pointer (some ⟨w.heap.size, 0, none⟩), .int .i64 4, .bool false, .bool false, .pointer (some ⟨w.heap.size, 0, none⟩), .int .i64 4, .bool false, .bool false, .bool false, .pointer (some ⟨w.heap.size, 2, none⟩), .string a2, .bool true, .bool false, .bool false, .bool false, .pointer (some ⟨w.heap.size, 3, none⟩), .int .i64 a3, .bool false, .bool false, .bool false, .pointer (some ⟨w.heap.size, 3, none⟩), .int .i64 a3, .bool false, .bool false, shapesV, .pointer (some ⟨w.heap.size, 0, none⟩), .int .i64 4, .int .i64 (IntKind.i64.wrap 3), .agg #[.string ⟨#[106, 117, 120, 116, 97, 112, 111, 115, 101]⟩, .bool false, .bool true, .bool true], undef, undef, undef, undef, undef, undef, undef, undef, undef, undef, undef, undef, undef, undef, undef, undef, undef, undef, undef, undef, undef, undef, undef, undef, undef, undef, undef, undef, undef, undef, undef, undef, undef, undef, undef, undef, undef, undef, undef, undef, undef, undef, undef, undef, undef, undef, undef, undef, undef, undef], defers := [] } w4 := by
        intro bx w4 hA
        rw [← hX]
        obtain ⟨r0, r1, r4, r5, s0, s1, s2, s3, B4⟩ := hA
        clear B1 x0 x1 x3 x4 x5 name k3 k4 hs5 hs6 ix
        have hr := HH2.out
        first | rw [if_pos rfl] at hr | simp only [if_true] at hr
        by_cases he : a1.size = 0
        · rw [if_pos he] at hr
          have HR2 := Aside0.mk (Option.some.inj hr)
          have k5 := empty_yes he
          clear HH2 he hr
          go_wp2
          go_quiet (fail)
          go_wp2
          all_goals go_ret
          all_goals (refine ⟨?_, pw_below_drewN B4.out _⟩; rw [← HR2.out]; first | (simp [numsB, *]; done) | (simp [numsB, *]; omega) | (have e0 : (a5 == 0) = numsB 4 a4 a5 := by (have e1 : 0 ≤ min a4 a5 := by omega); (have e2 : max a4 a5 ≤ 101 := by omega); unfold numsB; rw [decide_eq_true e1, decide_eq_true e2]; by_cases e3 : a4 = 0 <;> by_cases e4 : a5 = 0 <;> simp [e3, e4]); exact congrArg (fun b => Ending.returned (Value.bool b)) e0)
        · rw [if_neg he] at hr
          obtain rfl := Option.some.inj hr
          have k5 := empty_no he
          clear HH2 he
          go_wp2
          go_ret
          exact ⟨rfl, B4.out⟩
      have KEY := Aside0.mk key
      clear key
      subst hX
      go_region_with (go_at_call 25; refine (Go.Proofs.YtghdimmomnfakaaGreatDoor.Y.grammar_shapes.calls _ _ _ _ _ _ _ _ _ _ _ _ _ _ _ _ _ rfl).mono ?_; rintro e w2 ⟨rfl, hb2⟩; (try (have z0 : w2.cell? ⟨w1.heap.size, 0, none⟩ = some (.string ⟨#[]⟩) := box_cell (w := w1.drew) hb2 0 _ rfl; have z1 : w2.cell? ⟨w1.heap.size, 1, none⟩ = some (.bool false) := box_cell (w := w1.drew) hb2 1 _ rfl; have z2 : w2.cell? ⟨w1.heap.size, 2, none⟩ = some (.bool false) := box_cell (w := w1.drew) hb2 2 _ rfl; have z3 : w2.cell? ⟨w1.heap.size, 3, none⟩ = some (.bool false) := box_cell (w := w1.drew) hb2 3 _ rfl; have q0 : w2.frozen? ⟨w1.heap.size, 0, none⟩ = false := box_frozen (w := w1.drew) hb2 0; have q1 : w2.frozen? ⟨w1.heap.size, 1, none⟩ = false := box_frozen (w := w1.drew) hb2 1; have q2 : w2.frozen? ⟨w1.heap.size, 2, none⟩ = false := box_frozen (w := w1.drew) hb2 2; have q3 : w2.frozen? ⟨w1.heap.size, 3, none⟩ = false := box_frozen (w := w1.drew) hb2 3)); have b2 := keepB hb2 (w := w1) (by first | exact (Below.refl _ _).drew | exact ((Below.refl _ _).drew).alloc (Nat.le_refl _) _); clear hb2; have y0 := keepC b2 x0; have y1 := keepC b2 x1; have y3 := keepC b2 x3; have y4 := keepC b2 x4; have y5 := keepC b2 x5; have hs2 : w.heap.size < w2.heap.size := Nat.lt_of_lt_of_le hs1 b2.size; have hs3 : ¬ w.heap.size = w2.heap.size := Nat.ne_of_lt hs2; have hs4 : ¬ w2.heap.size = w.heap.size := fun e => hs3 e.symm; have B2 := Aside0.mk b2; clear b2)
      all_goals (
        have B12 := keepB B2.out B1.out
        clear B1 B2 x0 x1 x3 x4 x5 name k3 k4
        first
        | (refine KEY.out w2.heap.size _ ⟨?_, ?_, ?_, ?_, ?_, ?_, ?_, ?_, ⟨B12.alloc B12.size _⟩⟩ <;> go_simp)
        | (refine KEY.out w1.heap.size _ ⟨?_, ?_, ?_, ?_, ?_, ?_, ?_, ?_, ⟨(((B12.setCell (Nat.le_of_lt hs1) _).setCell (Nat.le_of_lt hs1) _).setCell (Nat.le_of_lt hs1) _).setCell (Nat.le_of_lt hs1) _⟩⟩ <;> go_simp))
end Go.Proofs.YtghdimmomnfakaaGreatDoor.Gv

namespace Go.Proofs.YtghdimmomnfakaaGreatDoor.Gv
open Go.RowKit Go.Proofs.YtghdimmomnfakaaGreatDoorW.PrintWords Go.Proofs.YtghdimmomnfakaaGreatDoorW.PrintLast Go.Proofs.YtghdimmomnfakaaGreatDoorW.PrintMore
theorem grammar_proper.mono : ∀ a0 a1 a2 a3 a4 a5 k, LeO (grammar_proper.f k a0 a1 a2 a3 a4 a5) (grammar_proper.f (k + 1) a0 a1 a2 a3 a4 a5) := by
  intro a0 a1 a2 a3 a4 a5 k
  unfold grammar_proper.f
  repeat' first
  | (with_reducible exact Go.Proofs.YtghdimmomnfakaaGreatDoor.Y.node_Symbol.mono _ _)
  | (with_reducible exact LeO.refl _)
  | (with_reducible refine LeO.ite ?_ ?_)
  | (with_reducible refine LeO.bind ?_ (fun _ => ?_))
  | exact Go.Proofs.YtghdimmomnfakaaGreatDoor.Y.node_Symbol.mono _ _
end Go.Proofs.YtghdimmomnfakaaGreatDoor.Gv

set_option linter.unusedVariables false
namespace Go.Proofs.YtghdimmomnfakaaGreatDoor.Gv
open Go.RowKit Go.Proofs.YtghdimmomnfakaaGreatDoorW.PrintWords Go.Proofs.YtghdimmomnfakaaGreatDoorW.PrintLast Go.Proofs.YtghdimmomnfakaaGreatDoorW.PrintMore
open Go.Proofs.YtghdimmomnfakaaGreatDoor.X (S31 k31 rd_T31 at_T31)
abbrev ruleV (x : S31) : Value := .agg #[.int .i64 x.f0, .string x.f1, .string x.f2, .int .i64 x.f3, .int .i64 x.f4, .int .i64 x.f5]
/-- what is asked of a predicate: it may lay blocks of its own -/
def PredIn (g : Nat) (lb : Array Value) (p : S31 → Bool) (w : World) : Prop :=
  ∀ (W : World) (x : S31), Below w.heap.size w W → Calls Tryz.prog g (#[ruleV x] ++ lb) W fun e w' => e = .returned (.bool (p x)) ∧ Below W.heap.size W w'
def idxP (p : S31 → Bool) (l : List S31) : Int := match l.findIdx? p with | some i => (i : Int) | none => -1
theorem idxP_hit {p : S31 → Bool} {l : List S31} {k : Nat} (hk : k < l.length) (h : p (rd_T31 l (k : Int)) = true) (h0 : ∀ j, j < k → p (rd_T31 l (j : Int)) = false) : idxP p l = k := by
  have e : l.findIdx? p = some k := by
    rw [List.findIdx?_eq_some_iff_getElem]
    refine ⟨hk, ?_, fun j hj => ?_⟩
    · have := h; unfold rd_T31 at this
      rw [show ((k : Int)).toNat = k from rfl, List.getD_eq_getElem?_getD, List.getElem?_eq_getElem hk] at this
      exact this
    · have := h0 j hj; unfold rd_T31 at this
      rw [show ((j : Int)).toNat = j from rfl, List.getD_eq_getElem?_getD, List.getElem?_eq_getElem (by omega)] at this
      simpa using this
  unfold idxP; rw [e]
theorem idxP_miss {p : S31 → Bool} {l : List S31} (h0 : ∀ j, j < l.length → p (rd_T31 l (j : Int)) = false) : idxP p l = -1 := by
  have e : l.findIdx? p = none := by
    rw [List.findIdx?_eq_none_iff]
    intro x hx
    obtain ⟨j, hj, rfl⟩ := List.getElem_of_mem hx
    have := h0 j hj; unfold rd_T31 at this
    rw [show ((j : Int)).toNat = j from rfl, List.getD_eq_getElem?_getD, List.getElem?_eq_getElem hj] at this
    exact this
  unfold idxP; rw [e]
set_option maxHeartbeats 2000000 in
theorem indexFunc (g : Nat) (lb : Array Value) (p : S31 → Bool) (eg : ∀ args w, (callFunc g args).run Tryz.prog w = .ok (.enter g args) w) (A : Option Addr) (c : Nat) (l : List S31) (w : World)
    (hr : Kd.C k31 w A l.length l) (hc : l.length ≤ c) (hp : PredIn g lb p w) :
    Calls Tryz.prog 30 #[.slice A l.length c, .func (.func g) #[] lb] w fun e w' => e = .returned (.int .i64 (idxP p l)) ∧ Below w.heap.size w w' := by
  have hbig : l.length ≤ 9223372036854775807 := by
    have := hr.2.1
    first | exact this | (unfold maxLen at this; omega)
  have HR := Aside0.mk hr
  have HP := Aside0.mk hp
  clear hr hp
  go_enter Tryz.func30, Tryz.ntmps30
  go_wp2
  generalize hn : l.length = n
  have hn1 : n ≤ l.length := Nat.le_of_eq hn.symm
  have HN := Aside0.mk hn
  clear hn
  go_loopg [5, 8] n (fun gg _ s8 wr => ∃ kk : Nat, kk ≤ n ∧ n - kk ≤ gg ∧ s8 = .int .i64 kk ∧ Aside0 (Below w.heap.size w wr) ∧ Aside0 (∀ j, j < kk → p (rd_T31 l (j : Int)) = false))
  case atStart => exact ⟨0, Nat.zero_le _, by omega, rfl, ⟨Below.refl _ w⟩, ⟨fun j hj => absurd hj (Nat.not_lt_zero _)⟩⟩
  case round =>
    obtain ⟨kk, hkk, hg, rfl, BW, A0⟩ := hrel
    by_cases hlt : kk < n
    · have hltz : (kk : Int) < (n : Int) := by omega
      obtain ⟨ad, e, x0, x1, x2, x3, x4, x5⟩ := at_T31 HR.out (kk : Int) (by omega) (by omega)
      cases e
      replace x0 := keepC BW.out x0
      replace x1 := keepC BW.out x1
      replace x2 := keepC BW.out x2
      replace x3 := keepC BW.out x3
      replace x4 := keepC BW.out x4
      replace x5 := keepC BW.out x5
      rw [show ((kk : Int)).toNat = kk from rfl] at x0 x1 x2 x3 x4 x5
      have hcall := HP.out wr (rd_T31 l (kk : Int)) BW.out
      cases hq : p (rd_T31 l (kk : Int)) with
      | true =>
        have HQ := Aside0.mk hq
        rw [hq] at hcall
        clear hq
        go_wp2_with (go_at_fn g; refine hcall.mono ?_; rintro e w' ⟨rfl, hb'⟩)
        go_ret
        refine ⟨?_, keepB hb' BW.out⟩
        rw [idxP_hit (by omega) HQ.out A0.out]
        rfl
      | false =>
        have HQ := Aside0.mk hq
        rw [hq] at hcall
        clear hq
        go_wp2_with (go_at_fn g; refine hcall.mono ?_; rintro e w' ⟨rfl, hb'⟩)
        go_roundg (n - (kk + 1))
        case measure => omega
        case rel =>
          refine ⟨kk + 1, by omega, by omega, by go_num, ⟨keepB hb' BW.out⟩, ⟨fun j hj => ?_⟩⟩
          by_cases e : j = kk
          · subst e; exact HQ.out
          · exact A0.out j (by omega)
    · have hltz : ¬ (kk : Int) < (n : Int) := by omega
      have hk : kk = n := by omega
      subst hk
      go_wp2
      go_ret
      refine ⟨?_, BW.out⟩
      rw [idxP_miss (fun j hj => A0.out j (by have := HN.out; omega))]
      rfl
theorem containsFunc (g : Nat) (lb : Array Value) (p : S31 → Bool) (eg : ∀ args w, (callFunc g args).run Tryz.prog w = .ok (.enter g args) w) (A : Option Addr) (c : Nat) (l : List S31) (w : World)
    (hr : Kd.C k31 w A l.length l) (hc : l.length ≤ c) (hp : PredIn g lb p w) :
    Calls Tryz.prog 12 #[.slice A l.length c, .func (.func g) #[] lb] w fun e w' => e = .returned (.bool (decide (0 ≤ idxP p l))) ∧ Below w.heap.size w w' := by
  have H := indexFunc g lb p eg A c l w hr hc hp
  generalize idxP p l = i at H ⊢
  clear hr hp
  go_enter Tryz.func12, Tryz.ntmps12
  go_wp2_with (go_at_call 30; refine H.mono ?_; rintro e w' ⟨rfl, hb'⟩)
  go_ret
  exact ⟨rfl, hb'⟩
end Go.Proofs.YtghdimmomnfakaaGreatDoor.Gv

set_option linter.unusedVariables false
namespace Go.Proofs.YtghdimmomnfakaaGreatDoor.Gv
open Go.RowKit Go.Proofs.YtghdimmomnfakaaGreatDoorW.PrintWords Go.Proofs.YtghdimmomnfakaaGreatDoorW.PrintLast Go.Proofs.YtghdimmomnfakaaGreatDoorW.PrintMore
open Go.Proofs.YtghdimmomnfakaaGreatDoor.X (S31 k31 rd_T31 at_T31)
def clashP (a0 : Int) (a1 a2 : ByteArray) (a3 a4 a5 : Int) (x : S31) : Bool := (Go.Proofs.YtghdimmomnfakaaGreatDoor.Y.grammar_clash.f x.f0 x.f1 x.f2 x.f3 x.f4 x.f5 a0 a1 a2 a3 a4 a5).getD false
theorem clash_total (a0 : Int) (a1 a2 : ByteArray) (a3 a4 a5 : Int) (x : S31) : Go.Proofs.YtghdimmomnfakaaGreatDoor.Y.grammar_clash.f x.f0 x.f1 x.f2 x.f3 x.f4 x.f5 a0 a1 a2 a3 a4 a5 = some (clashP a0 a1 a2 a3 a4 a5 x) := by
  unfold clashP Go.Proofs.YtghdimmomnfakaaGreatDoor.Y.grammar_clash.f
  repeat' split
  all_goals rfl
set_option maxHeartbeats 1000000 in
theorem closure_calls (a0 : Int) (a1 a2 : ByteArray) (a3 a4 a5 : Int) (W : World) (x : S31) (g : Nat) (hk : W.heap[g]? = some (.cells #[.int .i64 a0, .string a1, .string a2, .int .i64 a3, .int .i64 a4, .int .i64 a5] 31 (0, 0))) :
    Calls Tryz.prog 22 #[ruleV x, .pointer (some ⟨g, 0, none⟩)] W fun e w' => e = .returned (.bool (clashP a0 a1 a2 a3 a4 a5 x)) ∧ Below W.heap.size W w' := by
  have l1 : g < W.heap.size := blk_lt hk
  have n1 : ¬ g = W.heap.size := Nat.ne_of_lt l1
  have n3 : ¬ W.heap.size = g := fun e => n1 e.symm
  have call := fun W' => Go.Proofs.YtghdimmomnfakaaGreatDoor.Y.grammar_clash.calls x.f0 x.f1 x.f2 x.f3 x.f4 x.f5 a0 a1 a2 a3 a4 a5 _ W' (clash_total a0 a1 a2 a3 a4 a5 x)
  generalize clashP a0 a1 a2 a3 a4 a5 x = b at call ⊢
  have c0 := (blk_cell hk 0).trans rfl
  have c1 := (blk_cell hk 1).trans rfl
  have c2 := (blk_cell hk 2).trans rfl
  have c3 := (blk_cell hk 3).trans rfl
  have c4 := (blk_cell hk 4).trans rfl
  have c5 := (blk_cell hk 5).trans rfl
  clear hk
  go_enter Tryz.func22, Tryz.ntmps22
  go_wp2_with (go_at_call 14; refine (call _).mono ?_; rintro e w' ⟨rfl, hb'⟩)
  go_ret
  exact ⟨rfl, keepB hb' ((Below.refl _ _).alloc (Nat.le_refl _) _)⟩
def api_Rule.f (l : List S31) (a0 : Int) (a1 a2 : ByteArray) (a3 a4 a5 : Int) : Option Bool := some (decide (0 ≤ idxP (clashP a0 a1 a2 a3 a4 a5) l))
theorem api_Rule.callsAt (g : Nat) (A0 : Option Addr) (c0 : Nat) (l0 : List S31) (a0 : Int) (a1 a2 : ByteArray) (a3 a4 a5 : Int) (r : Bool) (w : World) (hr0 : Kd.C k31 w A0 l0.length l0) (hc0 : l0.length ≤ c0)
    (hk : w.heap[g]? = some (.cells #[.int .i64 a0, .string a1, .string a2, .int .i64 a3, .int .i64 a4, .int .i64 a5] 31 (0, 0))) (h : api_Rule.f l0 a0 a1 a2 a3 a4 a5 = some r) :
    Calls Tryz.prog 12 #[.slice A0 l0.length c0, .func (.func 22) #[] #[.pointer (some ⟨g, 0, none⟩)]] w fun e w' => e = .returned (.bool r) ∧ Below w.heap.size w w' := by
  obtain rfl := Option.some.inj h
  exact containsFunc 22 _ (clashP a0 a1 a2 a3 a4 a5) (enters_of Tryz.func22 (by kernel_rfl) rfl) A0 c0 l0 w hr0 hc0 (fun W x hb => closure_calls a0 a1 a2 a3 a4 a5 W x g (blk_below hk hb))
end Go.Proofs.YtghdimmomnfakaaGreatDoor.Gv
