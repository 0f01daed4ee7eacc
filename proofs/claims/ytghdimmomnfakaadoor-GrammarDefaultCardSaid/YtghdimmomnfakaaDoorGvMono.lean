/-
  More rounds give no other answer.
-/
import Derived.Test.YtghdimmomnfakaaDoorGvProper
namespace Go.Proofs.YtghdimmomnfakaaDoor.Gv
open Go.RowKit Go.Proofs.YtghdimmomnfakaaDoorW.PrintWords Go.Proofs.YtghdimmomnfakaaDoorW.PrintLast Go.Proofs.YtghdimmomnfakaaDoorW.PrintMore
theorem grammar_proper.mono : ∀ a0 a1 a2 a3 a4 a5 k, LeO (grammar_proper.f k a0 a1 a2 a3 a4 a5) (grammar_proper.f (k + 1) a0 a1 a2 a3 a4 a5) := by
  intro a0 a1 a2 a3 a4 a5 k
  unfold grammar_proper.f
  repeat' first
  | (with_reducible exact Go.Proofs.YtghdimmomnfakaaDoor.Y.node_Symbol.mono _ _)
  | (with_reducible exact LeO.refl _)
  | (with_reducible refine LeO.ite ?_ ?_)
  | (with_reducible refine LeO.bind ?_ (fun _ => ?_))
  | exact Go.Proofs.YtghdimmomnfakaaDoor.Y.node_Symbol.mono _ _
end Go.Proofs.YtghdimmomnfakaaDoor.Gv
