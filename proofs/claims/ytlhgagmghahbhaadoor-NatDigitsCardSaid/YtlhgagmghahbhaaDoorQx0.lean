-- Written by a program of this session, out of the kit's print tool (see NOTES.md: mypr)
import Derived.Test.YtlhgagmghahbhaaDoorProg
import Derived.Below
import Derived.Deep.Draws
import Derived.Deep.AppendLies
import Derived.Maps.AppendAt
import Derived.OwnWalk
import Derived.Laws.BytesArg
import Derived.Laws.MakeOwn
import Derived.Laws.OwnMore
import Derived.Deep.OwnRows
import Derived.Tactics
import Derived.Lib.ConvBytes
import Derived.Laws.Slices
import Derived.WalkKit
import Derived.KernelRfl
import Derived.RowKit3
import Derived.Deep.LoopGhost
import Derived.Deep.QuietTactic
import Derived.BigQuiet
import Derived.WideLaws
import Derived.Deep.DeepCutAuto
import Derived.Deep.CutBlock
import Derived.Deep.RegionHeld3
import Derived.Laws.Rows
import Derived.Lib.AppendStr
import Derived.ArgAppend
import Derived.Laws.IdiomCopy
import Derived.OrdersHeld
import Derived.Laws.BitsLemmas
import Derived.RowKit
import Derived.Test.YtlhgagmghahbhaaDoorWWords
import Derived.Test.YtlhgagmghahbhaaDoorWLast
import Derived.Test.YtlhgagmghahbhaaDoorWTab
import Derived.Test.YtlhgagmghahbhaaDoorWFour
import Derived.Test.YtlhgagmghahbhaaDoorWQPut
import Derived.Test.YtlhgagmghahbhaaDoorWApart
import Derived.Test.YtlhgagmghahbhaaDoorWArr
import Derived.Test.YtlhgagmghahbhaaDoorWZeros
import Derived.Test.YtlhgagmghahbhaaDoorWFoot
import Derived.Test.YtlhgagmghahbhaaDoorWKept
import Derived.Test.YtlhgagmghahbhaaDoorWShare
import Derived.Test.YtlhgagmghahbhaaDoorWN
import Derived.Test.YtlhgagmghahbhaaDoorWFootNe
import Derived.Test.YtlhgagmghahbhaaDoorWAt
import Derived.Test.YtlhgagmghahbhaaDoorWEqStruct
import Derived.Test.YtlhgagmghahbhaaDoorWRepsOne
import Derived.Test.YtlhgagmghahbhaaDoorWInv
import Derived.Test.YtlhgagmghahbhaaDoorWInvWords
import Derived.Test.YtlhgagmghahbhaaDoorWGuard
import Derived.Test.YtlhgagmghahbhaaDoorWNEv
import Derived.Test.YtlhgagmghahbhaaDoorWMore
namespace Go.Proofs.YtlhgagmghahbhaaDoor.Q
open Go.RowKit Go.Proofs.YtlhgagmghahbhaaDoorW.PrintWords Go.Proofs.YtlhgagmghahbhaaDoorW.PrintLast Go.Proofs.YtlhgagmghahbhaaDoorW.PrintMore
attribute [local go_sem] max2_int min2_int max_two min_two max_three min_three max_four min_four   -- for this text's walks alone
set_option linter.unusedVariables false
set_option linter.unusedSimpArgs false



def errW : Option Int → Value
  | none => .nilIface
  | some c => .iface 0 (.int .i64 c)
theorem errW_none : errW none = .nilIface := rfl
theorem errW_some (c : Int) : errW (some c) = .iface 0 (.int .i64 c) := rfl

theorem info5 : (Tryd.prog.info? 5).map (fun i => (i.zero, i.size, i.bytes)) = some (some (.int .u8 0), 1, 1) := by kernel_rfl
theorem info33 : (Tryd.prog.info? 33).map (fun i => (i.zero, i.size, i.bytes)) = some (some (.int .u32 0), 1, 4) := by kernel_rfl
-- the values' own types

end Go.Proofs.YtlhgagmghahbhaaDoor.Q
