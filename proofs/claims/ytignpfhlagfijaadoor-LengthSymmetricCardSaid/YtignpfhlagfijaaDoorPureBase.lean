/-
  Plain facts on the rounding of lengths, and that the example of the document holds.
-/
import Derived.Test.YtignpfhlagfijaaDoorXx7
import Derived.Test.YtignpfhlagfijaaDoorXx2
namespace Go.Proofs.YtignpfhlagfijaaDoor.Pure
open Go.RowKit Go.Proofs.YtignpfhlagfijaaDoorW.PrintWords Go.Proofs.YtignpfhlagfijaaDoorW.PrintLast Go.Proofs.YtignpfhlagfijaaDoorW.PrintMore Go.Proofs.YtignpfhlagfijaaDoor.Gv Go.Proofs.YtignpfhlagfijaaDoor.X

theorem w64 {x : Int} (h0 : -9223372036854775808 ≤ x) (h1 : x ≤ 9223372036854775807) : wrap64 x = x := by
  unfold wrap64
  omega

set_option maxRecDepth 100000 in
theorem awake_five : vinculumlaw01_awake.f 5 = some true := by kernel_rfl
theorem awake (k : Nat) (h : 5 ≤ k) : vinculumlaw01_awake.f k = some true := at_rounds vinculumlaw01_awake.mono h awake_five

/-- the nearest whole number to a / b -/
def near (a b : Int) : Int := if a < 0 then (if b < 0 then (2 * -a + -b) / (2 * -b) else -((2 * -a + b) / (2 * b))) else (if b < 0 then -((2 * a + -b) / (2 * -b)) else (2 * a + b) / (2 * b))

theorem ediv_of {x d q : Int} (hd : 0 < d) (h1 : d * q ≤ x) (h2 : x < d * q + d) : x / d = q := by
  apply Int.le_antisymm
  · have : x / d < q + 1 := Int.ediv_lt_of_lt_mul hd (by rw [Int.add_mul, Int.one_mul, Int.mul_comm q d]; exact h2)
    omega
  · exact Int.le_ediv_of_mul_le hd (by rw [Int.mul_comm]; exact h1)
/-- rounding by the rest -/
theorem round_pos {a b : Int} (_ : 0 ≤ a) (hb : 0 < b) : (2 * a + b) / (2 * b) = if 2 * (a % b) ≥ b then a / b + 1 else a / b := by
  have h1 := Int.mul_ediv_add_emod a b
  have h2 := Int.emod_nonneg a (show b ≠ 0 by omega)
  have h3 := Int.emod_lt_of_pos a hb
  generalize a % b = r at *
  generalize a / b = q at *
  split
  · apply ediv_of (by omega)
    · have : 2 * b * (q + 1) = 2 * (b * q) + 2 * b := by rw [Int.mul_add, Int.mul_assoc, Int.mul_one]
      omega
    · have : 2 * b * (q + 1) = 2 * (b * q) + 2 * b := by rw [Int.mul_add, Int.mul_assoc, Int.mul_one]
      omega
  · apply ediv_of (by omega)
    · have : 2 * b * q = 2 * (b * q) := by rw [Int.mul_assoc]
      omega
    · have : 2 * b * q = 2 * (b * q) := by rw [Int.mul_assoc]
      omega
theorem near_neg_b {a b : Int} (hb : b < 0) : near a b = near (-a) (-b) := by
  unfold near
  by_cases h : a < 0
  · rw [if_pos h, if_pos hb, if_neg (by omega), if_neg (by omega)]
  · rw [if_neg h, if_pos hb]
    by_cases h0 : a = 0
    · subst h0
      simp
      have : -b / (2 * -b) = 0 := ediv_of (by omega) (by omega) (by omega)
      omega
    · rw [if_pos (show -a < 0 by omega), if_neg (show ¬ -b < 0 by omega)]
      simp
theorem near_bd {a b : Int} (hb : b ≠ 0) : -(if a < 0 then -a else a) - 1 ≤ near a b ∧ near a b ≤ (if a < 0 then -a else a) + 1 := by
  have key : ∀ x y : Int, 0 ≤ x → 0 < y → 0 ≤ (2 * x + y) / (2 * y) ∧ (2 * x + y) / (2 * y) ≤ x + 1 := fun x y hx hy => by
    constructor
    · exact Int.ediv_nonneg (by omega) (by omega)
    · have : (2 * x + y) / (2 * y) < x + 2 := Int.ediv_lt_of_lt_mul (by omega) (by
        have h1 : (x + 2) * (2 * y) = 2 * (x * y) + 4 * y := by rw [Int.add_mul, Int.mul_left_comm]; omega
        have h2 : x ≤ x * y := by have := Int.mul_le_mul_of_nonneg_left (show (1 : Int) ≤ y by omega) hx; omega
        omega)
      omega
  unfold near
  split <;> split
  · have := key (-a) (-b) (by omega) (by omega); omega
  · have := key (-a) b (by omega) (by omega); omega
  · have := key a (-b) (by omega) (by omega); omega
  · have := key a b (by omega) (by omega); omega

theorem impl_round_pos (k : Nat) (a b : Int) (hb : 0 < b) (hb1 : b ≤ 1073741824) (h0 : -1152921504606846976 ≤ a) (h1 : a ≤ 1152921504606846976) : length_round.j0 (k + 1) a b = some (near a b) := by
  simp only [length_round.j0]
  rw [if_neg (by omega)]
  have hb' : ¬ b < 0 := by omega
  simp only [near, if_neg hb']
  by_cases ha : a < 0
  · obtain ⟨c, rfl⟩ : ∃ c, a = -c := ⟨-a, by omega⟩
    have e1 : Int.tdiv (-c) b = -(c / b) := by rw [Int.neg_tdiv, Int.tdiv_eq_ediv_of_nonneg (by omega)]
    have e2 : Int.tmod (-c) b = -(c % b) := by rw [Int.neg_tmod, Int.tmod_eq_emod_of_nonneg (by omega)]
    have r1 := Int.emod_nonneg c (show b ≠ 0 by omega)
    have r2 := Int.emod_lt_of_pos c hb
    have q1 : 0 ≤ c / b := Int.ediv_nonneg (by omega) (by omega)
    have q2 : c / b ≤ c := Int.ediv_le_self _ (by omega)
    rw [e1, e2, w64 (x := 2 * -(c % b)) (by omega) (by omega), w64 (x := -2 * -(c % b)) (by omega) (by omega), w64 (x := -(c / b)) (by omega) (by omega), w64 (x := -(c / b) + 1) (by omega) (by omega), w64 (x := -(c / b) - 1) (by omega) (by omega), if_neg (by omega), if_pos ha]
    have := round_pos (a := c) (b := b) (by omega) hb
    rw [show - -c = c by omega, this]
    by_cases c1 : 2 * (c % b) ≥ b
    · rw [if_pos c1, if_pos (by omega)]; congr 1; omega
    · rw [if_neg c1, if_neg (by omega)]
  · have e1 : Int.tdiv a b = a / b := Int.tdiv_eq_ediv_of_nonneg (by omega)
    have e2 : Int.tmod a b = a % b := Int.tmod_eq_emod_of_nonneg (by omega)
    have r1 := Int.emod_nonneg a (show b ≠ 0 by omega)
    have r2 := Int.emod_lt_of_pos a hb
    have q1 : 0 ≤ a / b := Int.ediv_nonneg (by omega) (by omega)
    have q2 : a / b ≤ a := Int.ediv_le_self _ (by omega)
    rw [e1, e2, w64 (x := 2 * (a % b)) (by omega) (by omega), w64 (x := -2 * (a % b)) (by omega) (by omega), w64 (x := a / b) (by omega) (by omega), w64 (x := a / b + 1) (by omega) (by omega), w64 (x := a / b - 1) (by omega) (by omega), if_neg ha, round_pos (by omega) hb]
    split
    · rfl
    · rw [if_neg (by omega)]
theorem impl_round (k : Nat) (a b : Int) (hb : b ≠ 0) (hb0 : -1073741824 ≤ b) (hb1 : b ≤ 1073741824) (h0 : -1152921504606846976 ≤ a) (h1 : a ≤ 1152921504606846976) : length_round.f (k + 1) a b = some (near a b) := by
  unfold length_round.f
  split
  · rw [w64 (x := -a) (by omega) (by omega), w64 (x := -b) (by omega) (by omega), impl_round_pos k (-a) (-b) (by omega) (by omega) (by omega) (by omega), ← near_neg_b (by omega)]
  · exact impl_round_pos k a b (by omega) hb1 h0 h1
theorem ref_size (a : Int) (h0 : -9223372036854775807 ≤ a) (h1 : a ≤ 9223372036854775807) : vinculumref01_size.f a = some (if a < 0 then -a else a) := by
  unfold vinculumref01_size.f
  split
  · rw [w64 (by omega) (by omega)]
  · rfl
theorem ref_round (a b : Int) (hb : b ≠ 0) (hb0 : -1073741824 ≤ b) (hb1 : b ≤ 1073741824) (h0 : -1152921504606846976 ≤ a) (h1 : a ≤ 1152921504606846976) : vinculumref01_round.f a b = some (near a b) := by
  have hn := near_bd (a := a) hb
  unfold vinculumref01_round.f
  rw [ref_size a (by omega) (by omega), ref_size b (by omega) (by omega)]
  simp only [Option.bind_some]
  unfold near at hn ⊢
  by_cases ha : a < 0 <;> by_cases hb' : b < 0
  · simp only [if_pos ha, if_pos hb'] at hn ⊢
    rw [w64 (x := 2 * -b) (by omega) (by omega), w64 (x := 2 * -a) (by omega) (by omega), w64 (x := 2 * -a + -b) (by omega) (by omega), if_neg (by omega), Int.tdiv_eq_ediv_of_nonneg (by omega), w64 (x := (2 * -a + -b) / (2 * -b)) (by omega) (by omega)]
    simp [ha, hb']
  · simp only [if_pos ha, if_neg hb'] at hn ⊢
    rw [w64 (x := 2 * b) (by omega) (by omega), w64 (x := 2 * -a) (by omega) (by omega), w64 (x := 2 * -a + b) (by omega) (by omega), if_neg (by omega), Int.tdiv_eq_ediv_of_nonneg (by omega), w64 (x := (2 * -a + b) / (2 * b)) (by omega) (by omega), w64 (x := -((2 * -a + b) / (2 * b))) (by omega) (by omega)]
    simp [ha, hb']
  · simp only [if_neg ha, if_pos hb'] at hn ⊢
    rw [w64 (x := 2 * -b) (by omega) (by omega), w64 (x := 2 * a) (by omega) (by omega), w64 (x := 2 * a + -b) (by omega) (by omega), if_neg (by omega), Int.tdiv_eq_ediv_of_nonneg (by omega), w64 (x := (2 * a + -b) / (2 * -b)) (by omega) (by omega), w64 (x := -((2 * a + -b) / (2 * -b))) (by omega) (by omega)]
    simp [ha, hb']
  · simp only [if_neg ha, if_neg hb'] at hn ⊢
    rw [w64 (x := 2 * b) (by omega) (by omega), w64 (x := 2 * a) (by omega) (by omega), w64 (x := 2 * a + b) (by omega) (by omega), if_neg (by omega), Int.tdiv_eq_ediv_of_nonneg (by omega), w64 (x := (2 * a + b) / (2 * b)) (by omega) (by omega)]
    simp [ha, hb']

/-- a length -/
def isL (n : Int) : Bool := decide (-1073741824 ≤ n) && decide (n ≤ 1073741824)
theorem isL_iff {n : Int} : isL n = true ↔ -1073741824 ≤ n ∧ n ≤ 1073741824 := by simp [isL]
theorem isL_no {n : Int} : isL n = false ↔ n < -1073741824 ∨ 1073741824 < n := by
  rw [Bool.eq_false_iff, Ne, isL_iff]; omega
theorem impl_valid (n : Int) : length_Valid.f n = some (isL n) := by
  unfold length_Valid.f isL
  split
  · rename_i h; simp [show (-1073741824 : Int) ≤ n by omega]
  · rename_i h; simp [show ¬ (-1073741824 : Int) ≤ n by omega]
theorem ref_valid (n : Int) : vinculumref01_Valid.f n = some (isL n) := by
  unfold vinculumref01_Valid.f isL
  split
  · rename_i h; simp [show (-1073741824 : Int) ≤ n by omega]
  · rename_i h; simp [show ¬ (-1073741824 : Int) ≤ n by omega]
/-- what Scale, Half and MulDiv give -/
def scale (n p : Int) : Int := if isL n = true then (if p < 0 then 0 else if p > 10000 then 0 else near (n * p) 100) else 0
def half (n : Int) : Int := if isL n = true then near n 2 else 0
def mulDiv (n a b : Int) : Int := if isL n = true then (if isL a = true then (if isL b = true then (if b = 0 then 0 else near (n * a) b) else 0) else 0) else 0
theorem prod_bd {a b A B : Int} (ha0 : -A ≤ a) (ha1 : a ≤ A) (hb0 : -B ≤ b) (hb1 : b ≤ B) : -(A * B) ≤ a * b ∧ a * b ≤ A * B := by
  have hA : 0 ≤ A := by omega
  have h : (a * b).natAbs ≤ (A * B).natAbs := by
    rw [Int.natAbs_mul, Int.natAbs_mul]
    exact Nat.mul_le_mul (by omega) (by omega)
  have h2 : 0 ≤ A * B := Int.mul_nonneg hA (by omega)
  omega
theorem impl_scale (k : Nat) (n p : Int) : length_Scale.f (k + 1) n p = some (scale n p) := by
  unfold length_Scale.f scale
  rw [impl_valid]
  simp only [Option.bind_some]
  split
  · rename_i h
    split
    · rfl
    · split
      · rfl
      · have hb := prod_bd (A := 1073741824) (B := 10000) (isL_iff.1 h).1 (isL_iff.1 h).2 (show -10000 ≤ p by omega) (show p ≤ 10000 by omega)
        rw [w64 (by omega) (by omega), impl_round k _ 100 (by omega) (by omega) (by omega) (by omega) (by omega)]
        rfl
  · rfl
theorem ref_scale (n p : Int) : vinculumref01_Scale.f n p = some (scale n p) := by
  unfold vinculumref01_Scale.f scale
  rw [ref_valid]
  simp only [Option.bind_some]
  split
  · rename_i h
    split
    · rfl
    · split
      · rfl
      · have hb := prod_bd (A := 1073741824) (B := 10000) (isL_iff.1 h).1 (isL_iff.1 h).2 (show -10000 ≤ p by omega) (show p ≤ 10000 by omega)
        rw [w64 (by omega) (by omega), ref_round _ 100 (by omega) (by omega) (by omega) (by omega) (by omega)]
        rfl
  · rfl
theorem impl_half (k : Nat) (n : Int) : length_Half.f (k + 1) n = some (half n) := by
  unfold length_Half.f half
  rw [impl_valid]
  simp only [Option.bind_some]
  split
  · rename_i h
    have := isL_iff.1 h
    rw [impl_round k _ 2 (by omega) (by omega) (by omega) (by omega) (by omega)]
    rfl
  · rfl
theorem ref_half (n : Int) : vinculumref01_Half.f n = some (half n) := by
  unfold vinculumref01_Half.f half
  rw [ref_valid]
  simp only [Option.bind_some]
  split
  · rename_i h
    have := isL_iff.1 h
    rw [ref_round _ 2 (by omega) (by omega) (by omega) (by omega) (by omega)]
    rfl
  · rfl
theorem impl_mulDiv (k : Nat) (n a b : Int) : length_MulDiv.f (k + 1) n a b = some (mulDiv n a b) := by
  unfold length_MulDiv.f mulDiv
  rw [impl_valid, impl_valid, impl_valid]
  simp only [Option.bind_some]
  split
  · rename_i h
    split
    · rename_i h'
      split
      · rename_i h''
        split
        · rfl
        · have hb := prod_bd (A := 1073741824) (B := 1073741824) (isL_iff.1 h).1 (isL_iff.1 h).2 (isL_iff.1 h').1 (isL_iff.1 h').2
          have := isL_iff.1 h''
          rw [w64 (by omega) (by omega), impl_round k _ b (by omega) (by omega) (by omega) (by omega) (by omega)]
          rfl
      · rfl
    · rfl
  · rfl
theorem ref_mulDiv (n a b : Int) : vinculumref01_MulDiv.f n a b = some (mulDiv n a b) := by
  unfold vinculumref01_MulDiv.f mulDiv
  rw [ref_valid, ref_valid, ref_valid]
  simp only [Option.bind_some]
  split
  · rename_i h
    split
    · rename_i h'
      split
      · rename_i h''
        split
        · rfl
        · have hb := prod_bd (A := 1073741824) (B := 1073741824) (isL_iff.1 h).1 (isL_iff.1 h).2 (isL_iff.1 h').1 (isL_iff.1 h').2
          have := isL_iff.1 h''
          rw [w64 (by omega) (by omega), ref_round _ b (by omega) (by omega) (by omega) (by omega) (by omega)]
          rfl
      · rfl
    · rfl
  · rfl
end Go.Proofs.YtignpfhlagfijaaDoor.Pure
