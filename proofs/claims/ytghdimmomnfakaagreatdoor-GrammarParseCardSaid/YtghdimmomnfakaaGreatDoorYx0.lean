-- Written by xprint.py, a program of this session, by way of the kit's print.py. Lean checks it.
import Derived.Test.YtghdimmomnfakaaGreatDoorProg
import Derived.Below
import Derived.Deep.Draws
import Derived.Deep.AppendLies
import Derived.Maps.AppendAt
import Derived.OwnWalk
import Derived.Laws.BytesArg
import Derived.Laws.MakeOwn
import Derived.Laws.OwnMore
import Derived.Deep.OwnRows
import Derived.Tactics
import Derived.Lib.ConvBytes
import Derived.Laws.Slices
import Derived.WalkKit
import Derived.KernelRfl
import Derived.RowKit3
import Derived.Deep.LoopGhost
import Derived.Deep.QuietTactic
import Derived.BigQuiet
import Derived.WideLaws
import Derived.Deep.DeepCutAuto
import Derived.Deep.CutBlock
import Derived.Deep.RegionHeld3
import Derived.Laws.Rows
import Derived.Lib.AppendStr
import Derived.ArgAppend
import Derived.Laws.IdiomCopy
import Derived.OrdersHeld
import Derived.Laws.BitsLemmas
import Derived.RowKit
import Derived.Test.YtghdimmomnfakaaGreatDoorGiven
import Derived.Test.YtghdimmomnfakaaGreatDoorWWords
import Derived.Test.YtghdimmomnfakaaGreatDoorWLast
import Derived.Test.YtghdimmomnfakaaGreatDoorWTab
import Derived.Test.YtghdimmomnfakaaGreatDoorWFour
import Derived.Test.YtghdimmomnfakaaGreatDoorWQPut
import Derived.Test.YtghdimmomnfakaaGreatDoorWApart
import Derived.Test.YtghdimmomnfakaaGreatDoorWArr
import Derived.Test.YtghdimmomnfakaaGreatDoorWZeros
import Derived.Test.YtghdimmomnfakaaGreatDoorWFoot
import Derived.Test.YtghdimmomnfakaaGreatDoorWKept
import Derived.Test.YtghdimmomnfakaaGreatDoorWShare
import Derived.Test.YtghdimmomnfakaaGreatDoorWN
import Derived.Test.YtghdimmomnfakaaGreatDoorWFootNe
import Derived.Test.YtghdimmomnfakaaGreatDoorWAt
import Derived.Test.YtghdimmomnfakaaGreatDoorWEqStruct
import Derived.Test.YtghdimmomnfakaaGreatDoorWRepsOne
import Derived.Test.YtghdimmomnfakaaGreatDoorWInv
import Derived.Test.YtghdimmomnfakaaGreatDoorWInvWords
import Derived.Test.YtghdimmomnfakaaGreatDoorWGuard
import Derived.Test.YtghdimmomnfakaaGreatDoorWNEv
import Derived.Test.YtghdimmomnfakaaGreatDoorWMore
namespace Go.Proofs.YtghdimmomnfakaaGreatDoor.Y
open Go.Proofs.YtghdimmomnfakaaGreatDoor.Gv
open Go.RowKit Go.Proofs.YtghdimmomnfakaaGreatDoorW.PrintWords Go.Proofs.YtghdimmomnfakaaGreatDoorW.PrintLast Go.Proofs.YtghdimmomnfakaaGreatDoorW.PrintMore
attribute [local go_sem] max2_int min2_int max_two min_two max_three min_three max_four min_four   -- for this text's walks alone
set_option linter.unusedVariables false
set_option linter.unusedSimpArgs false




theorem info9 : (Tryz.prog.info? 9).map (fun i => (i.zero, i.size, i.bytes)) = some (some (.string ⟨#[]⟩), 1, 16) := by kernel_rfl
-- the values' own types

end Go.Proofs.YtghdimmomnfakaaGreatDoor.Y
