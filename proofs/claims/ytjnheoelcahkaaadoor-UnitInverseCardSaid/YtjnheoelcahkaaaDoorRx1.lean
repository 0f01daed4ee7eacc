-- Written by xprint.py, a program of this session, by way of the kit's print.py. Lean checks it.
import Derived.Test.YtjnheoelcahkaaaDoorRx0
namespace Go.Proofs.YtjnheoelcahkaaaDoor.R
open Go.Proofs.YtjnheoelcahkaaaDoor.Gv
open Go.RowKit Go.Proofs.YtjnheoelcahkaaaDoorW.PrintWords Go.Proofs.YtjnheoelcahkaaaDoorW.PrintLast Go.Proofs.YtjnheoelcahkaaaDoorW.PrintMore
attribute [local go_sem] max2_int min2_int max_two min_two max_three min_three max_four min_four   -- for this text's walks alone
set_option linter.unusedVariables false
set_option linter.unusedSimpArgs false

theorem eqA53 (d : Nat) (w : World) (x0 y0 : Int) (x1 y1 : Int) :
    (Op.equalIn (d + 2) 53 (.agg #[.int .i64 x0, .int .i64 x1]) (.agg #[.int .i64 y0, .int .i64 y1])).run Tryd.prog w = .ok (x0 == y0 && (x1 == y1)) w := by
  refine eqA_of Tryd.underlying53 (by kernel_rfl) ?_
  refine eqf_cons (by rfl) (by go_simp; rfl) (by go_simp; rfl) (by go_simp) ?_
  exact eqf_last (by rfl) (by go_simp; rfl) (by go_simp; rfl) (by go_simp)
end Go.Proofs.YtjnheoelcahkaaaDoor.R
