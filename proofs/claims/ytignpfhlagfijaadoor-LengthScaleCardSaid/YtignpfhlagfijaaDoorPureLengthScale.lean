/-
  The plain law LengthScale: numbers and lists alone.
-/
import Derived.Test.YtignpfhlagfijaaDoorXx1
import Derived.Test.YtignpfhlagfijaaDoorPureBase
namespace Go.Proofs.YtignpfhlagfijaaDoor.Pure
open Go.RowKit Go.Proofs.YtignpfhlagfijaaDoorW.PrintWords Go.Proofs.YtignpfhlagfijaaDoorW.PrintLast Go.Proofs.YtignpfhlagfijaaDoorW.PrintMore Go.Proofs.YtignpfhlagfijaaDoor.Gv Go.Proofs.YtignpfhlagfijaaDoor.X
theorem LengthScale (a0 : Int) (_ : (Lit.int .i64 a0).wf = true) (a1 : Int) (_ : (Lit.int .i64 a1).wf = true) : ∃ k, vinculumlaw01_LengthScale.f k a0 a1 = some true := by
  refine ⟨6, ?_⟩
  unfold vinculumlaw01_LengthScale.f
  simp only [awake 6 (by omega), Option.bind_some, if_true, impl_valid, ref_valid, impl_scale, ref_scale, impl_half, ref_half, beq_self_eq_true]
end Go.Proofs.YtignpfhlagfijaaDoor.Pure
