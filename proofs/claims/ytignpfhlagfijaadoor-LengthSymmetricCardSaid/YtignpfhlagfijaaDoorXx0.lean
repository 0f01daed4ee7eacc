-- Written by xprint.py, a program of this session, by way of the kit's print.py. Lean checks it.
import Derived.Test.YtignpfhlagfijaaDoorProg
import Derived.Below
import Derived.Deep.Draws
import Derived.Deep.AppendLies
import Derived.Maps.AppendAt
import Derived.OwnWalk
import Derived.Laws.BytesArg
import Derived.Laws.MakeOwn
import Derived.Laws.OwnMore
import Derived.Deep.OwnRows
import Derived.Tactics
import Derived.Lib.ConvBytes
import Derived.Laws.Slices
import Derived.WalkKit
import Derived.KernelRfl
import Derived.RowKit3
import Derived.Deep.LoopGhost
import Derived.Deep.QuietTactic
import Derived.BigQuiet
import Derived.WideLaws
import Derived.Deep.DeepCutAuto
import Derived.Deep.CutBlock
import Derived.Deep.RegionHeld3
import Derived.Laws.Rows
import Derived.Lib.AppendStr
import Derived.ArgAppend
import Derived.Laws.IdiomCopy
import Derived.OrdersHeld
import Derived.Laws.BitsLemmas
import Derived.RowKit
import Derived.Test.YtignpfhlagfijaaDoorGiven
import Derived.Test.YtignpfhlagfijaaDoorWWords
import Derived.Test.YtignpfhlagfijaaDoorWLast
import Derived.Test.YtignpfhlagfijaaDoorWTab
import Derived.Test.YtignpfhlagfijaaDoorWFour
import Derived.Test.YtignpfhlagfijaaDoorWQPut
import Derived.Test.YtignpfhlagfijaaDoorWApart
import Derived.Test.YtignpfhlagfijaaDoorWArr
import Derived.Test.YtignpfhlagfijaaDoorWZeros
import Derived.Test.YtignpfhlagfijaaDoorWFoot
import Derived.Test.YtignpfhlagfijaaDoorWKept
import Derived.Test.YtignpfhlagfijaaDoorWShare
import Derived.Test.YtignpfhlagfijaaDoorWN
import Derived.Test.YtignpfhlagfijaaDoorWFootNe
import Derived.Test.YtignpfhlagfijaaDoorWAt
import Derived.Test.YtignpfhlagfijaaDoorWEqStruct
import Derived.Test.YtignpfhlagfijaaDoorWRepsOne
import Derived.Test.YtignpfhlagfijaaDoorWInv
import Derived.Test.YtignpfhlagfijaaDoorWInvWords
import Derived.Test.YtignpfhlagfijaaDoorWGuard
import Derived.Test.YtignpfhlagfijaaDoorWNEv
import Derived.Test.YtignpfhlagfijaaDoorWMore
namespace Go.Proofs.YtignpfhlagfijaaDoor.X
open Go.Proofs.YtignpfhlagfijaaDoor.Gv
open Go.RowKit Go.Proofs.YtignpfhlagfijaaDoorW.PrintWords Go.Proofs.YtignpfhlagfijaaDoorW.PrintLast Go.Proofs.YtignpfhlagfijaaDoorW.PrintMore
attribute [local go_sem] max2_int min2_int max_two min_two max_three min_three max_four min_four   -- for this text's walks alone
set_option linter.unusedVariables false
set_option linter.unusedSimpArgs false




theorem info3 : (Tryd.prog.info? 3).map (fun i => (i.zero, i.size, i.bytes)) = some (some (.int .i64 0), 1, 8) := by kernel_rfl
theorem info5 : (Tryd.prog.info? 5).map (fun i => (i.zero, i.size, i.bytes)) = some (some (.int .u8 0), 1, 1) := by kernel_rfl
-- the values' own types

end Go.Proofs.YtignpfhlagfijaaDoor.X
