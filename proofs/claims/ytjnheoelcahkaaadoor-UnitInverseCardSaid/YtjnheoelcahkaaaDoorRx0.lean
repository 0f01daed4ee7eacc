-- Written by xprint.py, a program of this session, by way of the kit's print.py. Lean checks it.
import Derived.Test.YtjnheoelcahkaaaDoorProg
import Derived.Below
import Derived.Deep.Draws
import Derived.Deep.AppendLies
import Derived.Maps.AppendAt
import Derived.OwnWalk
import Derived.Laws.BytesArg
import Derived.Laws.MakeOwn
import Derived.Laws.OwnMore
import Derived.Deep.OwnRows
import Derived.Tactics
import Derived.Lib.ConvBytes
import Derived.Laws.Slices
import Derived.WalkKit
import Derived.KernelRfl
import Derived.RowKit3
import Derived.Deep.LoopGhost
import Derived.Deep.QuietTactic
import Derived.BigQuiet
import Derived.WideLaws
import Derived.Deep.DeepCutAuto
import Derived.Deep.CutBlock
import Derived.Deep.RegionHeld3
import Derived.Laws.Rows
import Derived.Lib.AppendStr
import Derived.ArgAppend
import Derived.Laws.IdiomCopy
import Derived.OrdersHeld
import Derived.Laws.BitsLemmas
import Derived.RowKit
import Derived.Test.YtjnheoelcahkaaaDoorGiven
import Derived.Test.YtjnheoelcahkaaaDoorWWords
import Derived.Test.YtjnheoelcahkaaaDoorWLast
import Derived.Test.YtjnheoelcahkaaaDoorWTab
import Derived.Test.YtjnheoelcahkaaaDoorWFour
import Derived.Test.YtjnheoelcahkaaaDoorWQPut
import Derived.Test.YtjnheoelcahkaaaDoorWApart
import Derived.Test.YtjnheoelcahkaaaDoorWArr
import Derived.Test.YtjnheoelcahkaaaDoorWZeros
import Derived.Test.YtjnheoelcahkaaaDoorWFoot
import Derived.Test.YtjnheoelcahkaaaDoorWKept
import Derived.Test.YtjnheoelcahkaaaDoorWShare
import Derived.Test.YtjnheoelcahkaaaDoorWN
import Derived.Test.YtjnheoelcahkaaaDoorWFootNe
import Derived.Test.YtjnheoelcahkaaaDoorWAt
import Derived.Test.YtjnheoelcahkaaaDoorWEqStruct
import Derived.Test.YtjnheoelcahkaaaDoorWRepsOne
import Derived.Test.YtjnheoelcahkaaaDoorWInv
import Derived.Test.YtjnheoelcahkaaaDoorWInvWords
import Derived.Test.YtjnheoelcahkaaaDoorWGuard
import Derived.Test.YtjnheoelcahkaaaDoorWNEv
import Derived.Test.YtjnheoelcahkaaaDoorWMore
namespace Go.Proofs.YtjnheoelcahkaaaDoor.R
open Go.Proofs.YtjnheoelcahkaaaDoor.Gv
open Go.RowKit Go.Proofs.YtjnheoelcahkaaaDoorW.PrintWords Go.Proofs.YtjnheoelcahkaaaDoorW.PrintLast Go.Proofs.YtjnheoelcahkaaaDoorW.PrintMore
attribute [local go_sem] max2_int min2_int max_two min_two max_three min_three max_four min_four   -- for this text's walks alone
set_option linter.unusedVariables false
set_option linter.unusedSimpArgs false




-- the values' own types

end Go.Proofs.YtjnheoelcahkaaaDoor.R
