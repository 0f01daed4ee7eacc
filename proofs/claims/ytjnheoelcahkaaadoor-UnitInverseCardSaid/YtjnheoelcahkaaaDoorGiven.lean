/-
  What this seat's printed walks take as given: contracts of functions that are not printed.
-/
import Derived.Test.YtjnheoelcahkaaaDoorProg
import Derived.Below
import Derived.Deep.Draws
import Derived.Deep.AppendLies
import Derived.Maps.AppendAt
import Derived.OwnWalk
import Derived.Laws.BytesArg
import Derived.Laws.MakeOwn
import Derived.Laws.OwnMore
import Derived.Deep.OwnRows
import Derived.Tactics
import Derived.Lib.ConvBytes
import Derived.Laws.Slices
import Derived.WalkKit
import Derived.KernelRfl
import Derived.RowKit3
import Derived.Deep.LoopGhost
import Derived.Deep.QuietTactic
import Derived.BigQuiet
import Derived.WideLaws
import Derived.Deep.DeepCutAuto
import Derived.Deep.CutBlock
import Derived.Deep.RegionHeld3
import Derived.Laws.Rows
import Derived.Lib.AppendStr
import Derived.ArgAppend
import Derived.Laws.IdiomCopy
import Derived.OrdersHeld
import Derived.Laws.BitsLemmas
import Derived.RowKit
import Derived.Test.YtjnheoelcahkaaaDoorWWords
import Derived.Test.YtjnheoelcahkaaaDoorWLast
import Derived.Test.YtjnheoelcahkaaaDoorWTab
import Derived.Test.YtjnheoelcahkaaaDoorWFour
import Derived.Test.YtjnheoelcahkaaaDoorWQPut
import Derived.Test.YtjnheoelcahkaaaDoorWApart
import Derived.Test.YtjnheoelcahkaaaDoorWArr
import Derived.Test.YtjnheoelcahkaaaDoorWZeros
import Derived.Test.YtjnheoelcahkaaaDoorWFoot
import Derived.Test.YtjnheoelcahkaaaDoorWKept
import Derived.Test.YtjnheoelcahkaaaDoorWShare
import Derived.Test.YtjnheoelcahkaaaDoorWN
import Derived.Test.YtjnheoelcahkaaaDoorWFootNe
import Derived.Test.YtjnheoelcahkaaaDoorWAt
import Derived.Test.YtjnheoelcahkaaaDoorWEqStruct
import Derived.Test.YtjnheoelcahkaaaDoorWRepsOne
import Derived.Test.YtjnheoelcahkaaaDoorWInv
import Derived.Test.YtjnheoelcahkaaaDoorWInvWords
import Derived.Test.YtjnheoelcahkaaaDoorWGuard
import Derived.Test.YtjnheoelcahkaaaDoorWNEv
import Derived.Test.YtjnheoelcahkaaaDoorWMore
import Derived.Lib.SmallJoins
import Derived.Lib.AppendIntMem
import Derived.Lib.AtoiErrMem
import Derived.Lib.LaidTab
import Derived.Laws.RangeAny
import Derived.LoopTactic
import Derived.Test.YtjnheoelcahkaaaDoorShelf
import Derived.Test.YtjnheoelcahkaaaDoorJoin
set_option linter.unusedVariables false
set_option linter.unusedSimpArgs false
namespace Go.Proofs.YtjnheoelcahkaaaDoor.Gv
open Go.RowKit Go.Proofs.YtjnheoelcahkaaaDoorW.PrintWords Go.Proofs.YtjnheoelcahkaaaDoorW.PrintLast Go.Proofs.YtjnheoelcahkaaaDoorW.PrintMore
/-- an error over one whole number's type -/
def errW : Option Int → Value
  | none => .nilIface
  | some c => .iface 0 (.int .i64 c)
theorem errW_none : errW none = .nilIface := rfl
theorem errW_some (c : Int) : errW (some c) = .iface 0 (.int .i64 c) := rfl

/-- What a call may count on in the world: the table of powers of ten, and one number of the library's. -/
structure Gw (w : World) : Prop where
  tab : Lib.TabIs Tryd.prog w "internal/strconv.uint64pow10" .u64 Lib.pow10Tab
  most : ∃ m, w.cell? ⟨0, 0, none⟩ = some (.int .i64 m)
theorem Gw.below {B : Nat} {w w' : World} (h : Gw w) (hb : Below B w w') (hB : w.heap.size ≤ B := by exact Nat.le_refl _) : Gw w' :=
  ⟨Go.Joins.tab_stays (show Tryd.prog.globalNamed "internal/strconv.uint64pow10" = some 3 by kernel_rfl) h.tab hb hB, by
    obtain ⟨m, hm⟩ := h.most
    exact ⟨m, (hb.cell (Nat.lt_of_lt_of_le (World.block_lt_of_cell? w _ hm) hB)).trans hm⟩⟩
theorem Gw.drewN {w : World} (h : Gw w) (n : Nat) : Gw (w.drewN n) := h.below (pw_below_drewN (Below.refl w.heap.size w) n)
theorem Gw.drew {w : World} (h : Gw w) : Gw w.drew := h.below (below_drew (Below.refl w.heap.size w))

def strconv_Itoa.f (a0 : Int) : Option ByteArray := if -9223372036854775808 ≤ a0 then (if a0 ≤ 9223372036854775807 then some ⟨(Lib.itoa a0).toArray⟩ else none) else none
theorem strconv_Itoa.calls (a0 : Int) (r : ByteArray) (w : World) (hG : Gw w) (h : strconv_Itoa.f a0 = some r) :
    Calls Tryd.prog 54 #[.int .i64 a0] w fun e w' => e = .returned (.string r) ∧ Below w.heap.size w w' := by
  unfold strconv_Itoa.f at h
  split at h
  · rename_i h0
    split at h
    · rename_i h1
      obtain rfl := Option.some.inj h
      refine (Tryd.strconv_Itoa a0 h0 h1 w hG.tab).mono ?_
      rintro e w' ⟨rfl, k, os, rfl⟩
      exact ⟨rfl, Lib.below_grow _ _ (Nat.le_refl _) k os⟩
    · cases h
  · cases h


end Go.Proofs.YtjnheoelcahkaaaDoor.Gv
