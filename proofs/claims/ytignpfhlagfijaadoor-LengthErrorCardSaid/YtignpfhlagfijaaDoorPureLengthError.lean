/-
  The plain law LengthError: numbers and lists alone.
-/
import Derived.Test.YtignpfhlagfijaaDoorXx2
import Derived.Test.YtignpfhlagfijaaDoorPureBase
namespace Go.Proofs.YtignpfhlagfijaaDoor.Pure
open Go.RowKit Go.Proofs.YtignpfhlagfijaaDoorW.PrintWords Go.Proofs.YtignpfhlagfijaaDoorW.PrintLast Go.Proofs.YtignpfhlagfijaaDoorW.PrintMore Go.Proofs.YtignpfhlagfijaaDoor.Gv Go.Proofs.YtignpfhlagfijaaDoor.X
/-- twice the error is at most the divisor -/
theorem near_err {a b : Int} (hb : 0 < b) : -b ≤ 2 * (b * near a b - a) ∧ 2 * (b * near a b - a) ≤ b := by
  have hb' : ¬ b < 0 := by omega
  have key : ∀ x : Int, -b ≤ 2 * (b * ((2 * x + b) / (2 * b)) - x) ∧ 2 * (b * ((2 * x + b) / (2 * b)) - x) ≤ b := fun x => by
    have h1 := Int.mul_ediv_add_emod (2 * x + b) (2 * b)
    have h2 := Int.emod_nonneg (2 * x + b) (show 2 * b ≠ 0 by omega)
    have h3 := Int.emod_lt_of_pos (2 * x + b) (show 0 < 2 * b by omega)
    rw [Int.mul_assoc] at h1
    generalize b * ((2 * x + b) / (2 * b)) = m at *
    omega
  simp only [near, if_neg hb']
  split
  · have := key (-a)
    rw [Int.mul_neg]
    omega
  · exact key a
theorem near_mono {a c b : Int} (hb : 0 < b) (h : a ≤ c) : near a b ≤ near c b := by
  have hb' : ¬ b < 0 := by omega
  have mono : ∀ x y : Int, x ≤ y → (2 * x + b) / (2 * b) ≤ (2 * y + b) / (2 * b) := fun x y hxy => Int.ediv_le_ediv (by omega) (by omega)
  simp only [near, if_neg hb']
  by_cases h1 : a < 0 <;> by_cases h2 : c < 0
  · rw [if_pos h1, if_pos h2]; have := mono (-c) (-a) (by omega); omega
  · rw [if_pos h1, if_neg h2]
    have p1 : 0 ≤ (2 * -a + b) / (2 * b) := Int.ediv_nonneg (by omega) (by omega)
    have p2 : 0 ≤ (2 * c + b) / (2 * b) := Int.ediv_nonneg (by omega) (by omega)
    omega
  · omega
  · rw [if_neg h1, if_neg h2]; exact mono a c h
theorem scale_bd {n p : Int} (h : isL n = true) (h0 : 0 ≤ p) (h1 : p ≤ 10000) : scale n p = near (n * p) 100 := by
  unfold scale
  rw [if_pos h, if_neg (by omega), if_neg (by omega)]
theorem half_bd {n : Int} (h : isL n = true) : half n = near n 2 := by unfold half; rw [if_pos h]
theorem error_j1 (k : Nat) (a0 a1 a2 : Int) (h : isL a0 = true) (h0 : 0 ≤ a1) (h1 : a1 ≤ 10000) (h2 : 0 ≤ a2) (h3 : a2 ≤ 65535) : vinculumlaw01_LengthError.j1 (k + 2) a0 a1 a2 false = some true := by
  have ha := isL_iff.1 h
  simp only [vinculumlaw01_LengthError.j1]
  rw [if_neg (by decide), w64 (x := a2) (by omega) (by omega), w64 (x := a0 + a2) (by omega) (by omega), ref_valid]
  simp only [Option.bind_some]
  split
  · rename_i hm
    rw [impl_scale, impl_scale, impl_half, impl_half, scale_bd h h0 h1, scale_bd hm h0 h1, half_bd h, half_bd hm]
    simp only [Option.bind_some]
    have e1 : near (a0 * a1) 100 ≤ near ((a0 + a2) * a1) 100 := near_mono (by omega) (Int.mul_le_mul_of_nonneg_right (by omega) h0)
    have e2 : near a0 2 ≤ near (a0 + a2) 2 := near_mono (by omega) (by omega)
    rw [if_pos (show near ((a0 + a2) * a1) 100 ≥ near (a0 * a1) 100 from e1)]
    simp [e2]
  · rfl
theorem error_j0 (k : Nat) (a0 a1 a2 : Int) (h : isL a0 = true) (h0 : 0 ≤ a1) (h1 : a1 ≤ 10000) (h2 : 0 ≤ a2) (h3 : a2 ≤ 65535) : vinculumlaw01_LengthError.j0 (k + 3) a0 a1 a2 false = some true := by
  have ha := isL_iff.1 h
  have hb := prod_bd (A := 1073741824) (B := 10000) ha.1 ha.2 (show -10000 ≤ a1 by omega) h1
  have n1 := near_err (a := a0 * a1) (b := 100) (by omega)
  have n2 := near_err (a := a0) (b := 2) (by omega)
  simp only [vinculumlaw01_LengthError.j0]
  rw [if_neg (by decide), impl_scale, impl_half, scale_bd h h0 h1, half_bd h]
  simp only [Option.bind_some]
  generalize near (a0 * a1) 100 = s at *
  generalize near a0 2 = t at *
  generalize a0 * a1 = m at *
  rw [w64 (x := 100 * s) (by omega) (by omega), w64 (x := m) (by omega) (by omega), w64 (x := 100 * s - m) (by omega) (by omega), w64 (x := 2 * (100 * s - m)) (by omega) (by omega), w64 (x := 2 * t) (by omega) (by omega), w64 (x := 2 * t - a0) (by omega) (by omega), if_neg (by omega), if_neg (by omega), if_neg (by omega), show decide (2 * t - a0 < -1) = false from decide_eq_false (by omega)]
  exact error_j1 k a0 a1 a2 h h0 h1 h2 h3
theorem LengthError (a0 : Int) (_ : (Lit.int .i64 a0).wf = true) (a1 : Int) (_ : (Lit.int .i64 a1).wf = true) (a2 : Int) (h2 : (Lit.int .u16 a2).wf = true) : ∃ k, vinculumlaw01_LengthError.f k a0 a1 a2 = some true := by
  have hr : 0 ≤ a2 ∧ a2 ≤ 65535 := by simp [Lit.wf, IntKind.signed, IntKind.min, IntKind.max, IntKind.bits] at h2; omega
  refine ⟨8, ?_⟩
  unfold vinculumlaw01_LengthError.f
  rw [awake 8 (by omega), ref_valid]
  simp only [Option.bind_some, if_true]
  have stop : vinculumlaw01_LengthError.j0 8 a0 a1 a2 true = some true := by simp [vinculumlaw01_LengthError.j0]
  split
  · rename_i h
    split
    · exact stop
    · by_cases h1 : a1 > 10000
      · rw [show decide (a1 > 10000) = true from decide_eq_true h1]; exact stop
      · rw [show decide (a1 > 10000) = false from decide_eq_false h1]; exact error_j0 5 a0 a1 a2 h (by omega) (by omega) hr.1 hr.2
  · exact stop
end Go.Proofs.YtignpfhlagfijaaDoor.Pure
