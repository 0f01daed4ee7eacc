/-
  The example of the document holds; short answers for every list.
-/
import Derived.Test.YtghdimmomnfakaaDoorXx1
set_option linter.unusedVariables false
namespace Go.Proofs.YtghdimmomnfakaaDoor.Pure
open Go.RowKit Go.Proofs.YtghdimmomnfakaaDoorW.PrintWords Go.Proofs.YtghdimmomnfakaaDoorW.PrintLast Go.Proofs.YtghdimmomnfakaaDoorW.PrintMore Go.Proofs.YtghdimmomnfakaaDoor.Gv Go.Proofs.YtghdimmomnfakaaDoor.X
theorem w64 {x : Int} (h0 : -9223372036854775808 ≤ x) (h1 : x ≤ 9223372036854775807) : wrap64 x = x := by
  unfold wrap64
  omega
set_option maxRecDepth 100000 in
theorem awake_at : vinculumlaw49_awake.f 20 = some true := by kernel_rfl
theorem awake (k : Nat) (h : 20 ≤ k) : vinculumlaw49_awake.f k = some true := at_rounds vinculumlaw49_awake.mono h awake_at
theorem short_l0 (l : List S38) (hl : l.length ≤ 9223372036854775807) : ∀ n i k, l.length = i + n → n < k → ∃ b, vinculumlaw49_short.l0 k l (i : Int) = some b
  | n, i, 0, _, hk => by omega
  | n, i, k + 1, hi, hk => by
    rw [vinculumlaw49_short.l0]
    by_cases h : (i : Int) < (l.length : Int)
    · rw [if_pos h, if_pos (by omega)]
      split
      · exact ⟨_, rfl⟩
      · split
        · exact ⟨_, rfl⟩
        · rw [w64 (x := (i : Int) + 1) (by omega) (by omega)]
          obtain ⟨m, rfl⟩ : ∃ m, n = m + 1 := ⟨n - 1, by omega⟩
          exact short_l0 l hl m (i + 1) k (by omega) (by omega)
    · rw [if_neg h]
      exact ⟨_, rfl⟩
theorem short (l : List S38) (hl : l.length ≤ 9223372036854775807) (k : Nat) (hk : l.length < k) : ∃ b, vinculumlaw49_short.f k l = some b :=
  short_l0 l hl l.length 0 k (by omega) hk
end Go.Proofs.YtghdimmomnfakaaDoor.Pure
