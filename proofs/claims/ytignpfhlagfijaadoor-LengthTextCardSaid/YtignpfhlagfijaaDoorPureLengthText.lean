/-
  The plain law LengthText: numbers and lists alone.
-/
import Derived.Test.YtignpfhlagfijaaDoorXx7
import Derived.Test.YtignpfhlagfijaaDoorPureText
namespace Go.Proofs.YtignpfhlagfijaaDoor.Pure
open Go.RowKit Go.Proofs.YtignpfhlagfijaaDoorW.PrintWords Go.Proofs.YtignpfhlagfijaaDoorW.PrintLast Go.Proofs.YtignpfhlagfijaaDoorW.PrintMore Go.Proofs.YtignpfhlagfijaaDoor.Gv Go.Proofs.YtignpfhlagfijaaDoor.X Go.Proofs.YtignpfhlagfijaaDoor.Dec Go.Lib
theorem LengthText (a0 : Int) (_ : (Lit.int .i64 a0).wf = true) : ∃ k, vinculumlaw01_LengthText.f k a0 = some true := by
  refine ⟨1200, ?_⟩
  unfold vinculumlaw01_LengthText.f
  rw [awake 1200 (by omega), Option.bind_some, if_pos rfl, impl_text 1199, Option.bind_some, ref_valid]
  by_cases h : isL a0 = true
  · have hl := isL_iff.1 h
    have hs : (⟨(textL a0).toArray⟩ : ByteArray).size ≤ 1000 := by
      rw [size_list]
      unfold textL
      have hlen := itoa_length_le ((a0.natAbs / 1000 : Nat) : Int) (by omega) (by omega)
      rw [itoa_nonneg] at hlen
      have hf : (frac (fracF a0.natAbs)).length ≤ 4 := by
        unfold fracF
        split
        · simp [frac]
        · unfold three
          rw [frac_some, trim_three]
          split <;> (try split) <;> (try split) <;> simp
      have h1 : (if a0 < 0 then [45] else ([] : List UInt8)).length ≤ 1 := by split <;> simp
      simp only [List.length_append]
      simp only [List.length_cons, List.length_nil]
      omega
    rw [if_pos h, impl_shape ⟨(textL a0).toArray⟩ hs 1197 (shape_text a0), fin_text a0 h, Option.bind_some, Option.bind_some, if_pos h, ref_text 1199 (by omega), Option.bind_some, if_pos h, if_pos rfl, if_pos rfl]
    rfl
  · have hno : ∀ neg W F, ¬ Shape (⟨#[]⟩ : ByteArray).data.toList neg W F := fun neg W F hs => by
      have := congrArg List.length hs.eq
      simp at this
    rw [if_neg h, impl_other ⟨#[]⟩ (by decide) 1197 hno, Option.bind_some, Option.bind_some, if_neg h, if_pos (by rw [Lib.toList_data])]
    rfl
end Go.Proofs.YtignpfhlagfijaaDoor.Pure
