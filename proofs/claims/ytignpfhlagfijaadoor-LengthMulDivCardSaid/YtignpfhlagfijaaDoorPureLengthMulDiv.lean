/-
  The plain law LengthMulDiv: numbers and lists alone.
-/
import Derived.Test.YtignpfhlagfijaaDoorXx2
import Derived.Test.YtignpfhlagfijaaDoorPureBase
namespace Go.Proofs.YtignpfhlagfijaaDoor.Pure
open Go.RowKit Go.Proofs.YtignpfhlagfijaaDoorW.PrintWords Go.Proofs.YtignpfhlagfijaaDoorW.PrintLast Go.Proofs.YtignpfhlagfijaaDoorW.PrintMore Go.Proofs.YtignpfhlagfijaaDoor.Gv Go.Proofs.YtignpfhlagfijaaDoor.X
theorem LengthMulDiv (a0 : Int) (_ : (Lit.int .i64 a0).wf = true) (a1 : Int) (_ : (Lit.int .i64 a1).wf = true) (a2 : Int) (_ : (Lit.int .i64 a2).wf = true) : ∃ k, vinculumlaw01_LengthMulDiv.f k a0 a1 a2 = some true := by
  refine ⟨6, ?_⟩
  unfold vinculumlaw01_LengthMulDiv.f
  simp only [awake 6 (by omega), Option.bind_some, if_true, impl_mulDiv, ref_mulDiv, beq_self_eq_true]
end Go.Proofs.YtignpfhlagfijaaDoor.Pure
