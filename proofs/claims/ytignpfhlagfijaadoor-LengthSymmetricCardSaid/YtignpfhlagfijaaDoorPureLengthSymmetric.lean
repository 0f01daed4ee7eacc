/-
  The plain law LengthSymmetric: numbers and lists alone.
-/
import Derived.Test.YtignpfhlagfijaaDoorXx3
import Derived.Test.YtignpfhlagfijaaDoorPureBase
namespace Go.Proofs.YtignpfhlagfijaaDoor.Pure
open Go.RowKit Go.Proofs.YtignpfhlagfijaaDoorW.PrintWords Go.Proofs.YtignpfhlagfijaaDoorW.PrintLast Go.Proofs.YtignpfhlagfijaaDoorW.PrintMore Go.Proofs.YtignpfhlagfijaaDoor.Gv Go.Proofs.YtignpfhlagfijaaDoor.X
theorem near_both {a b : Int} (hb : b ≠ 0) : near (-a) (-b) = near a b := by
  by_cases h : b < 0
  · exact (near_neg_b h).symm
  · have := near_neg_b (a := -a) (b := -b) (by omega)
    rw [this, Int.neg_neg, Int.neg_neg]
theorem near_odd_pos {a b : Int} (hb : 0 < b) : near (-a) b = -near a b := by
  unfold near
  rcases Int.lt_trichotomy a 0 with h | h | h
  · rw [if_neg (by omega), if_neg (by omega), if_pos h, if_neg (by omega), Int.neg_neg]
  · subst h
    have : b / (2 * b) = 0 := ediv_of (by omega) (by omega) (by omega)
    simp [show ¬ b < 0 by omega, this]
  · rw [if_pos (by omega), if_neg (by omega), if_neg (by omega), if_neg (by omega), Int.neg_neg]
theorem near_odd {a b : Int} (hb : b ≠ 0) : near (-a) b = -near a b := by
  by_cases h : b < 0
  · have := near_odd_pos (a := a) (b := -b) (by omega)
    rw [← near_both hb, Int.neg_neg, ← near_both (a := a) hb, this, Int.neg_neg]
  · exact near_odd_pos (by omega)
theorem near_mul_pos {a b y : Int} (hb : 0 < b) (hy : 0 < y) : near (y * a) (y * b) = near a b := by
  have hyb : 0 < y * b := Int.mul_pos hy hb
  have key : ∀ c : Int, (2 * (y * c) + y * b) / (2 * (y * b)) = (2 * c + b) / (2 * b) := fun c => by
    rw [Int.mul_left_comm 2 y c, Int.mul_left_comm 2 y b, ← Int.mul_add, Int.mul_ediv_mul_of_pos _ _ hy]
  unfold near
  by_cases h : a < 0
  · have : y * a < 0 := Int.mul_neg_of_pos_of_neg hy h
    rw [if_pos this, if_neg (by omega), if_pos h, if_neg (by omega), ← Int.mul_neg, key]
  · have : 0 ≤ y * a := Int.mul_nonneg (by omega) (by omega)
    rw [if_neg (by omega), if_neg (by omega), if_neg h, if_neg (by omega), key]
theorem near_mul {a b y : Int} (hb : b ≠ 0) (hy : y ≠ 0) : near (y * a) (y * b) = near a b := by
  have step : ∀ {c y : Int}, 0 < y → near (y * c) (y * b) = near c b := fun {c y} hy => by
    by_cases h : b < 0
    · have h1 : y * b ≠ 0 := Int.mul_ne_zero (by omega) hb
      rw [← near_both h1, ← Int.mul_neg, ← Int.mul_neg, near_mul_pos (by omega) hy, near_both hb]
    · exact near_mul_pos (by omega) hy
  by_cases h : y < 0
  · have h1 : y * b ≠ 0 := Int.mul_ne_zero hy hb
    rw [← near_both h1, ← Int.neg_mul, ← Int.neg_mul, step (by omega)]
  · exact step (by omega)
theorem isL_neg (n : Int) : isL (-n) = isL n := by
  by_cases h : isL n = true
  · have := isL_iff.1 h
    rw [h]; exact isL_iff.2 (by omega)
  · rw [Bool.not_eq_true] at h
    have := isL_no.1 h
    rw [h]; exact isL_no.2 (by omega)
theorem half_odd (n : Int) : half (-n) = -half n := by
  unfold half
  rw [isL_neg, near_odd (by omega)]
  split <;> simp
theorem scale_odd (n p : Int) : scale (-n) p = -scale n p := by
  unfold scale
  rw [isL_neg, Int.neg_mul, near_odd (by omega)]
  repeat' split
  all_goals simp
theorem mulDiv_odd (n a b : Int) : mulDiv (-n) a b = -mulDiv n a b := by
  unfold mulDiv
  rw [isL_neg, Int.neg_mul]
  repeat' split
  all_goals first | (rename_i hb; rw [near_odd hb]) | simp
theorem mulDiv_common (n a b y : Int) (hy : y ≠ 0) (ha : isL a = true) (hb : isL b = true) (hya : isL (y * a) = true) (hyb : isL (y * b) = true) : mulDiv n (y * a) (y * b) = mulDiv n a b := by
  unfold mulDiv
  rw [ha, hb, hya, hyb]
  simp only [if_true]
  by_cases h : b = 0
  · subst h; simp
  · rw [if_neg h, if_neg (Int.mul_ne_zero hy h), Int.mul_left_comm, near_mul h hy]
theorem near_small {n b : Int} (hb : b ≠ 0) (h0 : -1152921504606846976 ≤ n) (h1 : n ≤ 1152921504606846976) : -9223372036854775807 ≤ near n b ∧ near n b ≤ 9223372036854775807 := by
  have := near_bd (a := n) hb
  split at this <;> omega
theorem half_small (n : Int) : -9223372036854775807 ≤ half n ∧ half n ≤ 9223372036854775807 := by
  unfold half
  split
  · rename_i h; have := isL_iff.1 h; exact near_small (by omega) (by omega) (by omega)
  · omega
theorem scale_small (n p : Int) : -9223372036854775807 ≤ scale n p ∧ scale n p ≤ 9223372036854775807 := by
  unfold scale
  split
  · rename_i h
    split
    · omega
    · split
      · omega
      · have hb := prod_bd (A := 1073741824) (B := 10000) (isL_iff.1 h).1 (isL_iff.1 h).2 (show -10000 ≤ p by omega) (show p ≤ 10000 by omega)
        exact near_small (by omega) (by omega) (by omega)
  · omega
theorem mulDiv_small (n a b : Int) : -9223372036854775807 ≤ mulDiv n a b ∧ mulDiv n a b ≤ 9223372036854775807 := by
  unfold mulDiv
  split
  · rename_i h
    split
    · rename_i h'
      split
      · split
        · omega
        · rename_i hb0
          have hb := prod_bd (A := 1073741824) (B := 1073741824) (isL_iff.1 h).1 (isL_iff.1 h).2 (isL_iff.1 h').1 (isL_iff.1 h').2
          exact near_small hb0 (by omega) (by omega)
      · omega
    · omega
  · omega
theorem j2_ok (k : Nat) (a0 a2 p q : Int) (b : Bool) (hb : b = true ∨ (a2 ≠ 0 ∧ -1000 ≤ a2 ∧ a2 ≤ 1000 ∧ isL p = true ∧ isL q = true ∧ isL (a2 * p) = true ∧ isL (a2 * q) = true)) : vinculumlaw01_LengthSymmetric.j2 (k + 2) a0 a2 b p q = some true := by
  rw [vinculumlaw01_LengthSymmetric.j2]
  rcases hb with rfl | ⟨h0, h1, h2, h3, h4, h5, h6⟩
  · rfl
  · have e3 := isL_iff.1 h5
    have e4 := isL_iff.1 h6
    rw [w64 (x := a2 * p) (by omega) (by omega), w64 (x := a2 * q) (by omega) (by omega), impl_mulDiv, impl_mulDiv, Option.bind_some, Option.bind_some, mulDiv_common _ _ _ _ h0 h3 h4 h5 h6, beq_self_eq_true]
    split <;> rfl
theorem j1_ok (k : Nat) (a0 a2 p q : Int) (h3 : isL p = true) (h4 : isL q = true) : vinculumlaw01_LengthSymmetric.j1 (k + 3) a0 a2 false p q = some true := by
  rw [vinculumlaw01_LengthSymmetric.j1]
  have ep := isL_iff.1 h3
  have eq := isL_iff.1 h4
  rw [if_neg (by simp)]
  split
  · exact j2_ok k _ _ _ _ _ (.inl rfl)
  · split
    · exact j2_ok k _ _ _ _ _ (.inl rfl)
    · split
      · exact j2_ok k _ _ _ _ _ (.inl rfl)
      · have bp := prod_bd (A := 1000) (B := 1073741824) (show -1000 ≤ a2 by omega) (show a2 ≤ 1000 by omega) ep.1 ep.2
        have bq := prod_bd (A := 1000) (B := 1073741824) (show -1000 ≤ a2 by omega) (show a2 ≤ 1000 by omega) eq.1 eq.2
        rw [w64 (x := a2 * p) (by omega) (by omega), w64 (x := a2 * q) (by omega) (by omega), ref_valid, ref_valid, Option.bind_some]
        split
        · rename_i hp
          rw [Option.bind_some]
          by_cases hq : isL (a2 * q) = true
          · exact j2_ok k _ _ _ _ _ (.inr ⟨by omega, by omega, by omega, h3, h4, hp, hq⟩)
          · rw [Bool.not_eq_true] at hq
            rw [hq]; exact j2_ok k _ _ _ _ _ (.inl rfl)
        · exact j2_ok k _ _ _ _ _ (.inl rfl)
theorem j0_ok (k : Nat) (a0 a2 p q : Int) (b : Bool) (h0 : isL a0 = true) (hb : b = true ∨ (isL p = true ∧ isL q = true)) : vinculumlaw01_LengthSymmetric.j0 (k + 4) a0 a2 b p q = some true := by
  rw [vinculumlaw01_LengthSymmetric.j0]
  rcases hb with rfl | ⟨h3, h4⟩
  · rfl
  · by_cases hb : b = true
    · rw [if_pos hb]
    · have e0 := isL_iff.1 h0
      have s1 := half_small a0
      have s2 := scale_small a0 70
      have s3 := mulDiv_small a0 p q
      rw [if_neg hb, w64 (x := -a0) (by omega) (by omega), impl_half, impl_half, Option.bind_some, Option.bind_some, half_odd, w64 (x := -half a0) (by omega) (by omega), if_pos rfl, impl_scale, impl_scale, Option.bind_some, Option.bind_some, scale_odd, w64 (x := -scale a0 70) (by omega) (by omega), if_pos rfl, impl_mulDiv, impl_mulDiv, Option.bind_some, Option.bind_some, mulDiv_odd, w64 (x := -mulDiv a0 p q) (by omega) (by omega), bne_self_eq_false]
      exact j1_ok k _ _ _ _ h3 h4
theorem LengthSymmetric (a0 : Int) (_ : (Lit.int .i64 a0).wf = true) (a1_0 a1_1 : Int) (_ : (Lit.int .i64 a1_0).wf = true) (_ : (Lit.int .i64 a1_1).wf = true) (a2 : Int) (_ : (Lit.int .i64 a2).wf = true) : ∃ k, vinculumlaw01_LengthSymmetric.f k a0 a1_0 a1_1 a2 = some true := by
  refine ⟨10, ?_⟩
  unfold vinculumlaw01_LengthSymmetric.f
  rw [awake 10 (by omega), Option.bind_some, if_pos rfl, ref_valid, Option.bind_some]
  split
  · rename_i h0
    rw [ref_valid, Option.bind_some]
    split
    · rename_i h1
      rw [ref_valid, Option.bind_some]
      by_cases h2 : isL a1_1 = true
      · exact j0_ok 6 _ _ _ _ _ h0 (.inr ⟨h1, h2⟩)
      · rw [Bool.not_eq_true] at h2
        rw [h2]; exact j0_ok 6 _ _ _ _ _ h0 (.inl rfl)
    · exact j0_ok 6 _ _ _ _ _ h0 (.inl rfl)
  · simp [vinculumlaw01_LengthSymmetric.j0]
end Go.Proofs.YtignpfhlagfijaaDoor.Pure
