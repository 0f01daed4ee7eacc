-- Written by xprint.py, a program of this session, by way of the kit's print.py. Lean checks it.
import Derived.Test.YtghdimmomnfakaaDoorProg
import Derived.Below
import Derived.Deep.Draws
import Derived.Deep.AppendLies
import Derived.Maps.AppendAt
import Derived.OwnWalk
import Derived.Laws.BytesArg
import Derived.Laws.MakeOwn
import Derived.Laws.OwnMore
import Derived.Deep.OwnRows
import Derived.Tactics
import Derived.Lib.ConvBytes
import Derived.Laws.Slices
import Derived.WalkKit
import Derived.KernelRfl
import Derived.RowKit3
import Derived.Deep.LoopGhost
import Derived.Deep.QuietTactic
import Derived.BigQuiet
import Derived.WideLaws
import Derived.Deep.DeepCutAuto
import Derived.Deep.CutBlock
import Derived.Deep.RegionHeld3
import Derived.Laws.Rows
import Derived.Lib.AppendStr
import Derived.ArgAppend
import Derived.Laws.IdiomCopy
import Derived.OrdersHeld
import Derived.Laws.BitsLemmas
import Derived.RowKit
import Derived.Test.YtghdimmomnfakaaDoorGiven
import Derived.Test.YtghdimmomnfakaaDoorWWords
import Derived.Test.YtghdimmomnfakaaDoorWLast
import Derived.Test.YtghdimmomnfakaaDoorWTab
import Derived.Test.YtghdimmomnfakaaDoorWFour
import Derived.Test.YtghdimmomnfakaaDoorWQPut
import Derived.Test.YtghdimmomnfakaaDoorWApart
import Derived.Test.YtghdimmomnfakaaDoorWArr
import Derived.Test.YtghdimmomnfakaaDoorWZeros
import Derived.Test.YtghdimmomnfakaaDoorWFoot
import Derived.Test.YtghdimmomnfakaaDoorWKept
import Derived.Test.YtghdimmomnfakaaDoorWShare
import Derived.Test.YtghdimmomnfakaaDoorWN
import Derived.Test.YtghdimmomnfakaaDoorWFootNe
import Derived.Test.YtghdimmomnfakaaDoorWAt
import Derived.Test.YtghdimmomnfakaaDoorWEqStruct
import Derived.Test.YtghdimmomnfakaaDoorWRepsOne
import Derived.Test.YtghdimmomnfakaaDoorWInv
import Derived.Test.YtghdimmomnfakaaDoorWInvWords
import Derived.Test.YtghdimmomnfakaaDoorWGuard
import Derived.Test.YtghdimmomnfakaaDoorWNEv
import Derived.Test.YtghdimmomnfakaaDoorWMore
namespace Go.Proofs.YtghdimmomnfakaaDoor.Y
open Go.Proofs.YtghdimmomnfakaaDoor.Gv
open Go.RowKit Go.Proofs.YtghdimmomnfakaaDoorW.PrintWords Go.Proofs.YtghdimmomnfakaaDoorW.PrintLast Go.Proofs.YtghdimmomnfakaaDoorW.PrintMore
attribute [local go_sem] max2_int min2_int max_two min_two max_three min_three max_four min_four   -- for this text's walks alone
set_option linter.unusedVariables false
set_option linter.unusedSimpArgs false




theorem info9 : (Tryd.prog.info? 9).map (fun i => (i.zero, i.size, i.bytes)) = some (some (.string ⟨#[]⟩), 1, 16) := by kernel_rfl
-- the values' own types

end Go.Proofs.YtghdimmomnfakaaDoor.Y
