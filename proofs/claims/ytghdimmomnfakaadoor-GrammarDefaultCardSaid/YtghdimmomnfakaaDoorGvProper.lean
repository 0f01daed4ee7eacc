/-
  grammar.proper: whether a rule is valid as the only one.
-/
import Derived.Test.YtghdimmomnfakaaDoorGvBox
set_option linter.unusedVariables false
namespace Go.Proofs.YtghdimmomnfakaaDoor.Gv
open Go.RowKit Go.Proofs.YtghdimmomnfakaaDoorW.PrintWords Go.Proofs.YtghdimmomnfakaaDoorW.PrintLast Go.Proofs.YtghdimmomnfakaaDoorW.PrintMore
attribute [local go_sem] max2_int min2_int max_two min_two
/-- what is asked of the numbers -/
def numsB (kd l r : Int) : Bool := (decide (0 ≤ min l r) && decide (max l r ≤ 101)) && ((decide (kd ≠ 2) || decide (l = 0)) && (decide (kd ≠ 3) || decide (r = 0)))
def grammar_proper.f (k : Nat) (a0 : Int) (a1 a2 : ByteArray) (a3 a4 a5 : Int) : Option Bool :=
  if a0 < 1 then some false else if 4 < a0 then some false else if nameB a2 = false then some false else if a3 < 1 then some false else if 100 < a3 then some false else
  if a0 = 4 then (if a1.size = 0 then some (numsB a0 a4 a5) else some false) else (if a1.size = 0 then some false else (Go.Proofs.YtghdimmomnfakaaDoor.Y.node_Symbol.f k a1).bind fun b => if b = true then some (numsB a0 a4 a5) else some false)
set_option maxHeartbeats 4000000 in
set_option maxRecDepth 1000000 in
theorem grammar_proper.calls (k : Nat) (a0 : Int) (a1 a2 : ByteArray) (a3 a4 a5 : Int) (r : Bool) (w : World) (hG : Gw w) (h : grammar_proper.f k a0 a1 a2 a3 a4 a5 = some r) :
    Calls Tryd.prog 29 #[.agg #[.int .i64 a0, .string a1, .string a2, .int .i64 a3, .int .i64 a4, .int .i64 a5]] w fun e w' => e = .returned (.bool r) ∧ Below w.heap.size w w' := by
  have HH := Aside0.mk h
  have HG := Aside0.mk hG
  clear h hG
  go_enter Tryd.func29, Tryd.ntmps29
  by_cases c1 : a0 < 1
  · have h := HH.out
    unfold grammar_proper.f at h
    rw [if_pos c1] at h
    obtain rfl := Option.some.inj h
    clear HH h
    have k1 : decide (a0 < 1) = true := decide_eq_true c1
    clear c1
    go_wp2
    go_ret
    exact ⟨rfl, (Below.refl _ _).alloc (Nat.le_refl _) _⟩
  by_cases c2 : 4 < a0
  · have h := HH.out
    unfold grammar_proper.f at h
    rw [if_neg c1, if_pos c2] at h
    obtain rfl := Option.some.inj h
    clear HH h
    have k1 : decide (a0 < 1) = false := decide_eq_false c1
    have k2 : decide (4 < a0) = true := decide_eq_true c2
    clear c1 c2
    go_wp2
    go_ret
    exact ⟨rfl, (Below.refl _ _).alloc (Nat.le_refl _) _⟩
  have k1 : decide (a0 < 1) = false := decide_eq_false c1
  have k2 : decide (4 < a0) = false := decide_eq_false c2
  have name : ∀ (b : Bool), nameB a2 = b → Calls Tryd.prog 50 #[.string a2] (w.alloc (.cells #[.int .i64 a0, .string a1, .string a2, .int .i64 a3, .int .i64 a4, .int .i64 a5] 38)) fun e w1 => e = .returned (.bool b) ∧ w.heap.size < w1.heap.size ∧ w1.cell? ⟨w.heap.size, 0, none⟩ = some (.int .i64 a0) ∧ w1.cell? ⟨w.heap.size, 1, none⟩ = some (.string a1) ∧ w1.cell? ⟨w.heap.size, 3, none⟩ = some (.int .i64 a3) ∧ w1.cell? ⟨w.heap.size, 4, none⟩ = some (.int .i64 a4) ∧ w1.cell? ⟨w.heap.size, 5, none⟩ = some (.int .i64 a5) ∧ Aside0 (Below w.heap.size w w1) := fun b hb =>
    (grammar_name.calls a2 b _ (congrArg some hb)).mono fun e w1 ⟨he, h1⟩ => ⟨he, by have := h1.size; simp at this; omega, box_cell h1 0 _ rfl, box_cell h1 1 _ rfl, box_cell h1 3 _ rfl, box_cell h1 4 _ rfl, box_cell h1 5 _ rfl, ⟨box_below h1⟩⟩
  cases hn : nameB a2 with
  | false =>
    have h := HH.out
    unfold grammar_proper.f at h
    rw [if_neg c1, if_neg c2, if_pos hn] at h
    obtain rfl := Option.some.inj h
    have name := name _ hn
    clear HH h c1 c2 hn
    go_wp2_with (go_at_call 50; refine name.mono ?_; rintro e w1 ⟨rfl, hs1, x0, x1, x3, x4, x5, B1⟩)
    go_ret
    exact ⟨rfl, B1.out⟩
  | true =>
    have name := name _ hn
    by_cases c3 : a3 < 1
    · have h := HH.out
      unfold grammar_proper.f at h
      rw [if_neg c1, if_neg c2, if_neg (by rw [hn]; simp), if_pos c3] at h
      obtain rfl := Option.some.inj h
      have k3 : decide (a3 < 1) = true := decide_eq_true c3
      clear HH h c1 c2 hn c3
      go_wp2_with (go_at_call 50; refine name.mono ?_; rintro e w1 ⟨rfl, hs1, x0, x1, x3, x4, x5, B1⟩)
      go_ret
      exact ⟨rfl, B1.out⟩
    by_cases c4 : 100 < a3
    · have h := HH.out
      unfold grammar_proper.f at h
      rw [if_neg c1, if_neg c2, if_neg (by rw [hn]; simp), if_neg c3, if_pos c4] at h
      obtain rfl := Option.some.inj h
      have k3 : decide (a3 < 1) = false := decide_eq_false c3
      have k4 : decide (100 < a3) = true := decide_eq_true c4
      clear HH h c1 c2 hn c3 c4
      go_wp2_with (go_at_call 50; refine name.mono ?_; rintro e w1 ⟨rfl, hs1, x0, x1, x3, x4, x5, B1⟩)
      go_ret
      exact ⟨rfl, B1.out⟩
    have k3 : decide (a3 < 1) = false := decide_eq_false c3
    have k4 : decide (100 < a3) = false := decide_eq_false c4
    have HH2 : Aside0 ((if a0 = 4 then (if a1.size = 0 then some (numsB a0 a4 a5) else some false) else (if a1.size = 0 then some false else (Go.Proofs.YtghdimmomnfakaaDoor.Y.node_Symbol.f k a1).bind fun b => if b = true then some (numsB a0 a4 a5) else some false)) = some r) := ⟨by
      have h := HH.out
      unfold grammar_proper.f at h
      rw [if_neg c1, if_neg c2, if_neg (by rw [hn]; simp), if_neg c3, if_neg c4] at h
      exact h⟩
    clear HH hn c3 c4
    rcases (by omega : a0 = 1 ∨ a0 = 2 ∨ a0 = 3 ∨ a0 = 4) with rfl | rfl | rfl | rfl
    · have ix := shape0
      clear k1 k2 c1 c2
      go_wp2_with (go_at_call 50; refine name.mono ?_; rintro e w1 ⟨rfl, hs1, x0, x1, x3, x4, x5, B1⟩)
      have hs5 : ¬ w.heap.size = w1.heap.size := Nat.ne_of_lt hs1
      have hs6 : ¬ w1.heap.size = w.heap.size := fun e => hs5 e.symm
      generalize hX : Exit.then _ _ = X
      have key : ∀ bx w4, (After w bx 1 a1 a4 a5 ⟨#[105, 110, 102, 105, 120]⟩ true true true) w4 → X .normal { tmps := #[.agg #[.int .i64 1, .string a1, .string a2, .int .i64 a3, .int .i64 a4, .int .i64 a5], .pointer (some ⟨w.heap.size, 0, none⟩), .bool false, .pointer (some ⟨bx, 0, none⟩), undef, undef, .pointer (some ⟨w.heap.size, 0, none⟩), .int .i64 1, .bool false, .bool false, .pointer (some ⟨w.heap.size, 0, none⟩), .int .i64 1, .bool false, .bool false, .bool false, .pointer (some ⟨w.heap.size, 2, none⟩), .string a2, .bool true, .bool false, .bool false, .bool false, .pointer (some ⟨w.heap.size, 3, none⟩), .int .i64 a3, .bool false, .bool false, .bool false, .pointer (some ⟨w.heap.size, 3, none⟩), .int .i64 a3, .bool false, .bool false, shapesV, .pointer (some ⟨w.heap.size, 0, none⟩), .int .i64 1, .int .i64 (IntKind.i64.wrap 0), .agg #[.string ⟨#[105, 110, 102, 105, 120]⟩, .bool true, .bool true, .bool true], undef, undef, undef, undef, undef, undef, undef, undef, undef, undef, undef, undef, undef, undef, undef, undef, undef, undef, undef, undef, undef, undef, undef, undef, undef, undef, undef, undef, undef, undef, undef, undef, undef, undef, undef, undef, undef, undef, undef, undef, undef, undef, undef, undef, undef, undef, undef, undef, undef, undef], defers := [] } w4 := by
        intro bx w4 hA
        rw [← hX]
        obtain ⟨r0, r1, r4, r5, s0, s1, s2, s3, B4⟩ := hA
        clear B1 x0 x1 x3 x4 x5 name k3 k4 hs5 hs6 ix
        have hr := HH2.out
        rw [if_neg (by decide)] at hr
        by_cases he : a1.size = 0
        · rw [if_pos he] at hr
          obtain rfl := Option.some.inj hr
          have k5 := empty_yes he
          clear HH2 he
          go_wp2
          go_ret
          exact ⟨rfl, B4.out⟩
        · rw [if_neg he] at hr
          have k5 := empty_no he
          cases hs : Go.Proofs.YtghdimmomnfakaaDoor.Y.node_Symbol.f k a1 with
          | none => rw [hs] at hr; cases hr
          | some b =>
            rw [hs, Option.bind_some] at hr
            have symb := Go.Proofs.YtghdimmomnfakaaDoor.Y.node_Symbol.calls k a1 b w4 (Gw.below HG.out B4.out) hs
            have HR := Aside0.mk hr
            clear HH2 he hs hr
            cases b with
            | false =>
              obtain rfl := Option.some.inj HR.out
              go_wp2_with (go_at_call 51; refine symb.mono ?_; rintro e w5 ⟨rfl, hb5⟩; have B5 := Aside0.mk (keepB hb5 B4.out); clear hb5)
              go_ret
              exact ⟨rfl, B5.out⟩
            | true =>
              have HR2 := Aside0.mk (Option.some.inj HR.out)
              clear HR
              go_wp2_with (go_at_call 51; refine symb.mono ?_; rintro e w5 ⟨rfl, hb5⟩; have t4 := keepC hb5 r4; have t5 := keepC hb5 r5; have u2 := keepC hb5 s2; have u3 := keepC hb5 s3; have B5 := Aside0.mk (keepB hb5 B4.out); clear hb5 r4 r5 s2 s3)
              go_quiet (fail)
              go_wp2
              all_goals go_ret
              all_goals (refine ⟨?_, pw_below_drewN B5.out _⟩; rw [← HR2.out]; first | (simp [numsB, *]; done) | (simp [numsB, *]; omega) | (have e0 : (a5 == 0) = numsB 1 a4 a5 := by (have e1 : 0 ≤ min a4 a5 := by omega); (have e2 : max a4 a5 ≤ 101 := by omega); unfold numsB; rw [decide_eq_true e1, decide_eq_true e2]; by_cases e3 : a4 = 0 <;> by_cases e4 : a5 = 0 <;> simp [e3, e4]); exact congrArg (fun b => Ending.returned (Value.bool b)) e0)
      have KEY := Aside0.mk key
      clear key
      subst hX
      go_region_with (go_at_call 47; refine (Go.Proofs.YtghdimmomnfakaaDoor.Y.grammar_shapes.calls _ _ _ _ _ _ _ _ _ _ _ _ _ _ _ _ _ rfl).mono ?_; rintro e w2 ⟨rfl, hb2⟩; (try (have z0 : w2.cell? ⟨w1.heap.size, 0, none⟩ = some (.string ⟨#[]⟩) := box_cell (w := w1.drew) hb2 0 _ rfl; have z1 : w2.cell? ⟨w1.heap.size, 1, none⟩ = some (.bool false) := box_cell (w := w1.drew) hb2 1 _ rfl; have z2 : w2.cell? ⟨w1.heap.size, 2, none⟩ = some (.bool false) := box_cell (w := w1.drew) hb2 2 _ rfl; have z3 : w2.cell? ⟨w1.heap.size, 3, none⟩ = some (.bool false) := box_cell (w := w1.drew) hb2 3 _ rfl; have q0 : w2.frozen? ⟨w1.heap.size, 0, none⟩ = false := box_frozen (w := w1.drew) hb2 0; have q1 : w2.frozen? ⟨w1.heap.size, 1, none⟩ = false := box_frozen (w := w1.drew) hb2 1; have q2 : w2.frozen? ⟨w1.heap.size, 2, none⟩ = false := box_frozen (w := w1.drew) hb2 2; have q3 : w2.frozen? ⟨w1.heap.size, 3, none⟩ = false := box_frozen (w := w1.drew) hb2 3)); have b2 := keepB hb2 (w := w1) (by first | exact (Below.refl _ _).drew | exact ((Below.refl _ _).drew).alloc (Nat.le_refl _) _); clear hb2; have y0 := keepC b2 x0; have y1 := keepC b2 x1; have y3 := keepC b2 x3; have y4 := keepC b2 x4; have y5 := keepC b2 x5; have hs2 : w.heap.size < w2.heap.size := Nat.lt_of_lt_of_le hs1 b2.size; have hs3 : ¬ w.heap.size = w2.heap.size := Nat.ne_of_lt hs2; have hs4 : ¬ w2.heap.size = w.heap.size := fun e => hs3 e.symm; have B2 := Aside0.mk b2; clear b2)
      all_goals (
        have B12 := keepB B2.out B1.out
        clear B1 B2 x0 x1 x3 x4 x5 name k3 k4
        first
        | (refine KEY.out w2.heap.size _ ⟨?_, ?_, ?_, ?_, ?_, ?_, ?_, ?_, ⟨B12.alloc B12.size _⟩⟩ <;> go_simp)
        | (refine KEY.out w1.heap.size _ ⟨?_, ?_, ?_, ?_, ?_, ?_, ?_, ?_, ⟨(((B12.setCell (Nat.le_of_lt hs1) _).setCell (Nat.le_of_lt hs1) _).setCell (Nat.le_of_lt hs1) _).setCell (Nat.le_of_lt hs1) _⟩⟩ <;> go_simp))
    · have ix := shape1
      clear k1 k2 c1 c2
      go_wp2_with (go_at_call 50; refine name.mono ?_; rintro e w1 ⟨rfl, hs1, x0, x1, x3, x4, x5, B1⟩)
      have hs5 : ¬ w.heap.size = w1.heap.size := Nat.ne_of_lt hs1
      have hs6 : ¬ w1.heap.size = w.heap.size := fun e => hs5 e.symm
      generalize hX : Exit.then _ _ = X
      have key : ∀ bx w4, (After w bx 2 a1 a4 a5 ⟨#[112, 114, 101, 102, 105, 120]⟩ true false true) w4 → X .normal { tmps := #[.agg #[.int .i64 2, .string a1, .string a2, .int .i64 a3, .int .i64 a4, .int .i64 a5], .pointer (some ⟨w.heap.size, 0, none⟩), .bool false, .pointer (some ⟨bx, 0, none⟩), undef, undef, .pointer (some ⟨w.heap.size, 0, none⟩), .int .i64 2, .bool false, .bool false, .pointer (some ⟨w.heap.size, 0, none⟩), .int .i64 2, .bool false, .bool false, .bool false, .pointer (some ⟨w.heap.size, 2, none⟩), .string a2, .bool true, .bool false, .bool false, .bool false, .pointer (some ⟨w.heap.size, 3, none⟩), .int .i64 a3, .bool false, .bool false, .bool false, .pointer (some ⟨w.heap.size, 3, none⟩), .int .i64 a3, .bool false, .bool false, shapesV, .pointer (some ⟨w.heap.size, 0, none⟩), .int .i64 2, .int .i64 (IntKind.i64.wrap 1), .agg #[.string ⟨#[112, 114, 101, 102, 105, 120]⟩, .bool true, .bool false, .bool true], undef, undef, undef, undef, undef, undef, undef, undef, undef, undef, undef, undef, undef, undef, undef, undef, undef, undef, undef, undef, undef, undef, undef, undef, undef, undef, undef, undef, undef, undef, undef, undef, undef, undef, undef, undef, undef, undef, undef, undef, undef, undef, undef, undef, undef, undef, undef, undef, undef, undef], defers := [] } w4 := by
        intro bx w4 hA
        rw [← hX]
        obtain ⟨r0, r1, r4, r5, s0, s1, s2, s3, B4⟩ := hA
        clear B1 x0 x1 x3 x4 x5 name k3 k4 hs5 hs6 ix
        have hr := HH2.out
        rw [if_neg (by decide)] at hr
        by_cases he : a1.size = 0
        · rw [if_pos he] at hr
          obtain rfl := Option.some.inj hr
          have k5 := empty_yes he
          clear HH2 he
          go_wp2
          go_ret
          exact ⟨rfl, B4.out⟩
        · rw [if_neg he] at hr
          have k5 := empty_no he
          cases hs : Go.Proofs.YtghdimmomnfakaaDoor.Y.node_Symbol.f k a1 with
          | none => rw [hs] at hr; cases hr
          | some b =>
            rw [hs, Option.bind_some] at hr
            have symb := Go.Proofs.YtghdimmomnfakaaDoor.Y.node_Symbol.calls k a1 b w4 (Gw.below HG.out B4.out) hs
            have HR := Aside0.mk hr
            clear HH2 he hs hr
            cases b with
            | false =>
              obtain rfl := Option.some.inj HR.out
              go_wp2_with (go_at_call 51; refine symb.mono ?_; rintro e w5 ⟨rfl, hb5⟩; have B5 := Aside0.mk (keepB hb5 B4.out); clear hb5)
              go_ret
              exact ⟨rfl, B5.out⟩
            | true =>
              have HR2 := Aside0.mk (Option.some.inj HR.out)
              clear HR
              go_wp2_with (go_at_call 51; refine symb.mono ?_; rintro e w5 ⟨rfl, hb5⟩; have t4 := keepC hb5 r4; have t5 := keepC hb5 r5; have u2 := keepC hb5 s2; have u3 := keepC hb5 s3; have B5 := Aside0.mk (keepB hb5 B4.out); clear hb5 r4 r5 s2 s3)
              go_quiet (fail)
              go_wp2
              all_goals go_ret
              all_goals (refine ⟨?_, pw_below_drewN B5.out _⟩; rw [← HR2.out]; first | (simp [numsB, *]; done) | (simp [numsB, *]; omega) | (have e0 : (a4 == 0) = numsB 2 a4 a5 := by (have e1 : 0 ≤ min a4 a5 := by omega); (have e2 : max a4 a5 ≤ 101 := by omega); unfold numsB; rw [decide_eq_true e1, decide_eq_true e2]; by_cases e3 : a4 = 0 <;> by_cases e4 : a5 = 0 <;> simp [e3, e4]); exact congrArg (fun b => Ending.returned (Value.bool b)) e0)
      have KEY := Aside0.mk key
      clear key
      subst hX
      go_region_with (go_at_call 47; refine (Go.Proofs.YtghdimmomnfakaaDoor.Y.grammar_shapes.calls _ _ _ _ _ _ _ _ _ _ _ _ _ _ _ _ _ rfl).mono ?_; rintro e w2 ⟨rfl, hb2⟩; (try (have z0 : w2.cell? ⟨w1.heap.size, 0, none⟩ = some (.string ⟨#[]⟩) := box_cell (w := w1.drew) hb2 0 _ rfl; have z1 : w2.cell? ⟨w1.heap.size, 1, none⟩ = some (.bool false) := box_cell (w := w1.drew) hb2 1 _ rfl; have z2 : w2.cell? ⟨w1.heap.size, 2, none⟩ = some (.bool false) := box_cell (w := w1.drew) hb2 2 _ rfl; have z3 : w2.cell? ⟨w1.heap.size, 3, none⟩ = some (.bool false) := box_cell (w := w1.drew) hb2 3 _ rfl; have q0 : w2.frozen? ⟨w1.heap.size, 0, none⟩ = false := box_frozen (w := w1.drew) hb2 0; have q1 : w2.frozen? ⟨w1.heap.size, 1, none⟩ = false := box_frozen (w := w1.drew) hb2 1; have q2 : w2.frozen? ⟨w1.heap.size, 2, none⟩ = false := box_frozen (w := w1.drew) hb2 2; have q3 : w2.frozen? ⟨w1.heap.size, 3, none⟩ = false := box_frozen (w := w1.drew) hb2 3)); have b2 := keepB hb2 (w := w1) (by first | exact (Below.refl _ _).drew | exact ((Below.refl _ _).drew).alloc (Nat.le_refl _) _); clear hb2; have y0 := keepC b2 x0; have y1 := keepC b2 x1; have y3 := keepC b2 x3; have y4 := keepC b2 x4; have y5 := keepC b2 x5; have hs2 : w.heap.size < w2.heap.size := Nat.lt_of_lt_of_le hs1 b2.size; have hs3 : ¬ w.heap.size = w2.heap.size := Nat.ne_of_lt hs2; have hs4 : ¬ w2.heap.size = w.heap.size := fun e => hs3 e.symm; have B2 := Aside0.mk b2; clear b2)
      all_goals (
        have B12 := keepB B2.out B1.out
        clear B1 B2 x0 x1 x3 x4 x5 name k3 k4
        first
        | (refine KEY.out w2.heap.size _ ⟨?_, ?_, ?_, ?_, ?_, ?_, ?_, ?_, ⟨B12.alloc B12.size _⟩⟩ <;> go_simp)
        | (refine KEY.out w1.heap.size _ ⟨?_, ?_, ?_, ?_, ?_, ?_, ?_, ?_, ⟨(((B12.setCell (Nat.le_of_lt hs1) _).setCell (Nat.le_of_lt hs1) _).setCell (Nat.le_of_lt hs1) _).setCell (Nat.le_of_lt hs1) _⟩⟩ <;> go_simp))
    · have ix := shape2
      clear k1 k2 c1 c2
      go_wp2_with (go_at_call 50; refine name.mono ?_; rintro e w1 ⟨rfl, hs1, x0, x1, x3, x4, x5, B1⟩)
      have hs5 : ¬ w.heap.size = w1.heap.size := Nat.ne_of_lt hs1
      have hs6 : ¬ w1.heap.size = w.heap.size := fun e => hs5 e.symm
      generalize hX : Exit.then _ _ = X
      have key : ∀ bx w4, (After w bx 3 a1 a4 a5 ⟨#[112, 111, 115, 116, 102, 105, 120]⟩ true true false) w4 → X .normal { tmps := #[.agg #[.int .i64 3, .string a1, .string a2, .int .i64 a3, .int .i64 a4, .int .i64 a5], .pointer (some ⟨w.heap.size, 0, none⟩), .bool false, .pointer (some ⟨bx, 0, none⟩), undef, undef, .pointer (some ⟨w.heap.size, 0, none⟩), .int .i64 3, .bool false, .bool false, .pointer (some ⟨w.heap.size, 0, none⟩), .int .i64 3, .bool false, .bool false, .bool false, .pointer (some ⟨w.heap.size, 2, none⟩), .string a2, .bool true, .bool false, .bool false, .bool false, .pointer (some ⟨w.heap.size, 3, none⟩), .int .i64 a3, .bool false, .bool false, .bool false, .pointer (some ⟨w.heap.size, 3, none⟩), .int .i64 a3, .bool false, .bool false, shapesV, .pointer (some ⟨w.heap.size, 0, none⟩), .int .i64 3, .int .i64 (IntKind.i64.wrap 2), .agg #[.string ⟨#[112, 111, 115, 116, 102, 105, 120]⟩, .bool true, .bool true, .bool false], undef, undef, undef, undef, undef, undef, undef, undef, undef, undef, undef, undef, undef, undef, undef, undef, undef, undef, undef, undef, undef, undef, undef, undef, undef, undef, undef, undef, undef, undef, undef, undef, undef, undef, undef, undef, undef, undef, undef, undef, undef, undef, undef, undef, undef, undef, undef, undef, undef, undef], defers := [] } w4 := by
        intro bx w4 hA
        rw [← hX]
        obtain ⟨r0, r1, r4, r5, s0, s1, s2, s3, B4⟩ := hA
        clear B1 x0 x1 x3 x4 x5 name k3 k4 hs5 hs6 ix
        have hr := HH2.out
        rw [if_neg (by decide)] at hr
        by_cases he : a1.size = 0
        · rw [if_pos he] at hr
          obtain rfl := Option.some.inj hr
          have k5 := empty_yes he
          clear HH2 he
          go_wp2
          go_ret
          exact ⟨rfl, B4.out⟩
        · rw [if_neg he] at hr
          have k5 := empty_no he
          cases hs : Go.Proofs.YtghdimmomnfakaaDoor.Y.node_Symbol.f k a1 with
          | none => rw [hs] at hr; cases hr
          | some b =>
            rw [hs, Option.bind_some] at hr
            have symb := Go.Proofs.YtghdimmomnfakaaDoor.Y.node_Symbol.calls k a1 b w4 (Gw.below HG.out B4.out) hs
            have HR := Aside0.mk hr
            clear HH2 he hs hr
            cases b with
            | false =>
              obtain rfl := Option.some.inj HR.out
              go_wp2_with (go_at_call 51; refine symb.mono ?_; rintro e w5 ⟨rfl, hb5⟩; have B5 := Aside0.mk (keepB hb5 B4.out); clear hb5)
              go_ret
              exact ⟨rfl, B5.out⟩
            | true =>
              have HR2 := Aside0.mk (Option.some.inj HR.out)
              clear HR
              go_wp2_with (go_at_call 51; refine symb.mono ?_; rintro e w5 ⟨rfl, hb5⟩; have t4 := keepC hb5 r4; have t5 := keepC hb5 r5; have u2 := keepC hb5 s2; have u3 := keepC hb5 s3; have B5 := Aside0.mk (keepB hb5 B4.out); clear hb5 r4 r5 s2 s3)
              go_quiet (fail)
              go_wp2
              all_goals go_ret
              all_goals (refine ⟨?_, pw_below_drewN B5.out _⟩; rw [← HR2.out]; first | (simp [numsB, *]; done) | (simp [numsB, *]; omega) | (have e0 : (a5 == 0) = numsB 3 a4 a5 := by (have e1 : 0 ≤ min a4 a5 := by omega); (have e2 : max a4 a5 ≤ 101 := by omega); unfold numsB; rw [decide_eq_true e1, decide_eq_true e2]; by_cases e3 : a4 = 0 <;> by_cases e4 : a5 = 0 <;> simp [e3, e4]); exact congrArg (fun b => Ending.returned (Value.bool b)) e0)
      have KEY := Aside0.mk key
      clear key
      subst hX
      go_region_with (go_at_call 47; refine (Go.Proofs.YtghdimmomnfakaaDoor.Y.grammar_shapes.calls _ _ _ _ _ _ _ _ _ _ _ _ _ _ _ _ _ rfl).mono ?_; rintro e w2 ⟨rfl, hb2⟩; (try (have z0 : w2.cell? ⟨w1.heap.size, 0, none⟩ = some (.string ⟨#[]⟩) := box_cell (w := w1.drew) hb2 0 _ rfl; have z1 : w2.cell? ⟨w1.heap.size, 1, none⟩ = some (.bool false) := box_cell (w := w1.drew) hb2 1 _ rfl; have z2 : w2.cell? ⟨w1.heap.size, 2, none⟩ = some (.bool false) := box_cell (w := w1.drew) hb2 2 _ rfl; have z3 : w2.cell? ⟨w1.heap.size, 3, none⟩ = some (.bool false) := box_cell (w := w1.drew) hb2 3 _ rfl; have q0 : w2.frozen? ⟨w1.heap.size, 0, none⟩ = false := box_frozen (w := w1.drew) hb2 0; have q1 : w2.frozen? ⟨w1.heap.size, 1, none⟩ = false := box_frozen (w := w1.drew) hb2 1; have q2 : w2.frozen? ⟨w1.heap.size, 2, none⟩ = false := box_frozen (w := w1.drew) hb2 2; have q3 : w2.frozen? ⟨w1.heap.size, 3, none⟩ = false := box_frozen (w := w1.drew) hb2 3)); have b2 := keepB hb2 (w := w1) (by first | exact (Below.refl _ _).drew | exact ((Below.refl _ _).drew).alloc (Nat.le_refl _) _); clear hb2; have y0 := keepC b2 x0; have y1 := keepC b2 x1; have y3 := keepC b2 x3; have y4 := keepC b2 x4; have y5 := keepC b2 x5; have hs2 : w.heap.size < w2.heap.size := Nat.lt_of_lt_of_le hs1 b2.size; have hs3 : ¬ w.heap.size = w2.heap.size := Nat.ne_of_lt hs2; have hs4 : ¬ w2.heap.size = w.heap.size := fun e => hs3 e.symm; have B2 := Aside0.mk b2; clear b2)
      all_goals (
        have B12 := keepB B2.out B1.out
        clear B1 B2 x0 x1 x3 x4 x5 name k3 k4
        first
        | (refine KEY.out w2.heap.size _ ⟨?_, ?_, ?_, ?_, ?_, ?_, ?_, ?_, ⟨B12.alloc B12.size _⟩⟩ <;> go_simp)
        | (refine KEY.out w1.heap.size _ ⟨?_, ?_, ?_, ?_, ?_, ?_, ?_, ?_, ⟨(((B12.setCell (Nat.le_of_lt hs1) _).setCell (Nat.le_of_lt hs1) _).setCell (Nat.le_of_lt hs1) _).setCell (Nat.le_of_lt hs1) _⟩⟩ <;> go_simp))
    · have ix := shape3
      clear k1 k2 c1 c2
      go_wp2_with (go_at_call 50; refine name.mono ?_; rintro e w1 ⟨rfl, hs1, x0, x1, x3, x4, x5, B1⟩)
      have hs5 : ¬ w.heap.size = w1.heap.size := Nat.ne_of_lt hs1
      have hs6 : ¬ w1.heap.size = w.heap.size := fun e => hs5 e.symm
      generalize hX : Exit.then _ _ = X
      have key : ∀ bx w4, (After w bx 4 a1 a4 a5 ⟨#[106, 117, 120, 116, 97, 112, 111, 115, 101]⟩ false true true) w4 → X .normal { tmps := #[.agg #[.int .i64 4, .string a1, .string a2, .int .i64 a3, .int .i64 a4, .int .i64 a5], .pointer (some ⟨w.heap.size, 0, none⟩), .bool false, .pointer (some ⟨bx, 0, none⟩), undef, undef, .pointer (some ⟨w.heap.size, 0, none⟩), .int .i64 4, .bool false, .bool false, .pointer (some ⟨w.heap.size, 0, none⟩), .int .i64 4, .bool false, .bool false, .bool false, .pointer (some ⟨w.heap.size, 2, none⟩), .string a2, .bool true, .bool false, .bool false, .bool false, .pointer (some ⟨w.heap.size, 3, none⟩), .int .i64 a3, .bool false, .bool false, .bool false, .pointer (some ⟨w.heap.size, 3, none⟩), .int .i64 a3, .bool false, .bool false, shapesV, .pointer (some ⟨w.heap.size, 0, none⟩), .int .i64 4, .int .i64 (IntKind.i64.wrap 3), .agg #[.string ⟨#[106, 117, 120, 116, 97, 112, 111, 115, 101]⟩, .bool false, .bool true, .bool true], undef, undef, undef, undef, undef, undef, undef, undef, undef, undef, undef, undef, undef, undef, undef, undef, undef, undef, undef, undef, undef, undef, undef, undef, undef, undef, undef, undef, undef, undef, undef, undef, undef, undef, undef, undef, undef, undef, undef, undef, undef, undef, undef, undef, undef, undef, undef, undef, undef, undef], defers := [] } w4 := by
        intro bx w4 hA
        rw [← hX]
        obtain ⟨r0, r1, r4, r5, s0, s1, s2, s3, B4⟩ := hA
        clear B1 x0 x1 x3 x4 x5 name k3 k4 hs5 hs6 ix
        have hr := HH2.out
        first | rw [if_pos rfl] at hr | simp only [if_true] at hr
        by_cases he : a1.size = 0
        · rw [if_pos he] at hr
          have HR2 := Aside0.mk (Option.some.inj hr)
          have k5 := empty_yes he
          clear HH2 he hr
          go_wp2
          go_quiet (fail)
          go_wp2
          all_goals go_ret
          all_goals (refine ⟨?_, pw_below_drewN B4.out _⟩; rw [← HR2.out]; first | (simp [numsB, *]; done) | (simp [numsB, *]; omega) | (have e0 : (a5 == 0) = numsB 4 a4 a5 := by (have e1 : 0 ≤ min a4 a5 := by omega); (have e2 : max a4 a5 ≤ 101 := by omega); unfold numsB; rw [decide_eq_true e1, decide_eq_true e2]; by_cases e3 : a4 = 0 <;> by_cases e4 : a5 = 0 <;> simp [e3, e4]); exact congrArg (fun b => Ending.returned (Value.bool b)) e0)
        · rw [if_neg he] at hr
          obtain rfl := Option.some.inj hr
          have k5 := empty_no he
          clear HH2 he
          go_wp2
          go_ret
          exact ⟨rfl, B4.out⟩
      have KEY := Aside0.mk key
      clear key
      subst hX
      go_region_with (go_at_call 47; refine (Go.Proofs.YtghdimmomnfakaaDoor.Y.grammar_shapes.calls _ _ _ _ _ _ _ _ _ _ _ _ _ _ _ _ _ rfl).mono ?_; rintro e w2 ⟨rfl, hb2⟩; (try (have z0 : w2.cell? ⟨w1.heap.size, 0, none⟩ = some (.string ⟨#[]⟩) := box_cell (w := w1.drew) hb2 0 _ rfl; have z1 : w2.cell? ⟨w1.heap.size, 1, none⟩ = some (.bool false) := box_cell (w := w1.drew) hb2 1 _ rfl; have z2 : w2.cell? ⟨w1.heap.size, 2, none⟩ = some (.bool false) := box_cell (w := w1.drew) hb2 2 _ rfl; have z3 : w2.cell? ⟨w1.heap.size, 3, none⟩ = some (.bool false) := box_cell (w := w1.drew) hb2 3 _ rfl; have q0 : w2.frozen? ⟨w1.heap.size, 0, none⟩ = false := box_frozen (w := w1.drew) hb2 0; have q1 : w2.frozen? ⟨w1.heap.size, 1, none⟩ = false := box_frozen (w := w1.drew) hb2 1; have q2 : w2.frozen? ⟨w1.heap.size, 2, none⟩ = false := box_frozen (w := w1.drew) hb2 2; have q3 : w2.frozen? ⟨w1.heap.size, 3, none⟩ = false := box_frozen (w := w1.drew) hb2 3)); have b2 := keepB hb2 (w := w1) (by first | exact (Below.refl _ _).drew | exact ((Below.refl _ _).drew).alloc (Nat.le_refl _) _); clear hb2; have y0 := keepC b2 x0; have y1 := keepC b2 x1; have y3 := keepC b2 x3; have y4 := keepC b2 x4; have y5 := keepC b2 x5; have hs2 : w.heap.size < w2.heap.size := Nat.lt_of_lt_of_le hs1 b2.size; have hs3 : ¬ w.heap.size = w2.heap.size := Nat.ne_of_lt hs2; have hs4 : ¬ w2.heap.size = w.heap.size := fun e => hs3 e.symm; have B2 := Aside0.mk b2; clear b2)
      all_goals (
        have B12 := keepB B2.out B1.out
        clear B1 B2 x0 x1 x3 x4 x5 name k3 k4
        first
        | (refine KEY.out w2.heap.size _ ⟨?_, ?_, ?_, ?_, ?_, ?_, ?_, ?_, ⟨B12.alloc B12.size _⟩⟩ <;> go_simp)
        | (refine KEY.out w1.heap.size _ ⟨?_, ?_, ?_, ?_, ?_, ?_, ?_, ?_, ⟨(((B12.setCell (Nat.le_of_lt hs1) _).setCell (Nat.le_of_lt hs1) _).setCell (Nat.le_of_lt hs1) _).setCell (Nat.le_of_lt hs1) _⟩⟩ <;> go_simp))
end Go.Proofs.YtghdimmomnfakaaDoor.Gv
