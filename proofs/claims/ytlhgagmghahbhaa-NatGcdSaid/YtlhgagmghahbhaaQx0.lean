-- Written by a program of this session, out of the kit's print tool (see NOTES.md: mypr)
import Derived.Test.YtlhgagmghahbhaaProg
import Derived.Below
import Derived.Deep.Draws
import Derived.Deep.AppendLies
import Derived.Maps.AppendAt
import Derived.OwnWalk
import Derived.Laws.BytesArg
import Derived.Laws.MakeOwn
import Derived.Laws.OwnMore
import Derived.Deep.OwnRows
import Derived.Tactics
import Derived.Lib.ConvBytes
import Derived.Laws.Slices
import Derived.WalkKit
import Derived.KernelRfl
import Derived.RowKit3
import Derived.Deep.LoopGhost
import Derived.Deep.QuietTactic
import Derived.BigQuiet
import Derived.WideLaws
import Derived.Deep.DeepCutAuto
import Derived.Deep.CutBlock
import Derived.Deep.RegionHeld3
import Derived.Laws.Rows
import Derived.Lib.AppendStr
import Derived.ArgAppend
import Derived.Laws.IdiomCopy
import Derived.OrdersHeld
import Derived.Laws.BitsLemmas
import Derived.RowKit
import Derived.Test.YtlhgagmghahbhaaWWords
import Derived.Test.YtlhgagmghahbhaaWLast
import Derived.Test.YtlhgagmghahbhaaWTab
import Derived.Test.YtlhgagmghahbhaaWFour
import Derived.Test.YtlhgagmghahbhaaWQPut
import Derived.Test.YtlhgagmghahbhaaWApart
import Derived.Test.YtlhgagmghahbhaaWArr
import Derived.Test.YtlhgagmghahbhaaWZeros
import Derived.Test.YtlhgagmghahbhaaWFoot
import Derived.Test.YtlhgagmghahbhaaWKept
import Derived.Test.YtlhgagmghahbhaaWShare
import Derived.Test.YtlhgagmghahbhaaWN
import Derived.Test.YtlhgagmghahbhaaWFootNe
import Derived.Test.YtlhgagmghahbhaaWAt
import Derived.Test.YtlhgagmghahbhaaWEqStruct
import Derived.Test.YtlhgagmghahbhaaWRepsOne
import Derived.Test.YtlhgagmghahbhaaWInv
import Derived.Test.YtlhgagmghahbhaaWInvWords
import Derived.Test.YtlhgagmghahbhaaWGuard
import Derived.Test.YtlhgagmghahbhaaWNEv
import Derived.Test.YtlhgagmghahbhaaWMore
namespace Go.Proofs.Ytlhgagmghahbhaa.Q
open Go.RowKit Go.Proofs.YtlhgagmghahbhaaW.PrintWords Go.Proofs.YtlhgagmghahbhaaW.PrintLast Go.Proofs.YtlhgagmghahbhaaW.PrintMore
attribute [local go_sem] max2_int min2_int max_two min_two max_three min_three max_four min_four   -- for this text's walks alone
set_option linter.unusedVariables false
set_option linter.unusedSimpArgs false



def errW : Option Int → Value
  | none => .nilIface
  | some c => .iface 0 (.int .i64 c)
theorem errW_none : errW none = .nilIface := rfl
theorem errW_some (c : Int) : errW (some c) = .iface 0 (.int .i64 c) := rfl

theorem info46 : (Try.prog.info? 46).map (fun i => (i.zero, i.size, i.bytes)) = some (some (.int .u32 0), 1, 4) := by kernel_rfl
-- the values' own types

end Go.Proofs.Ytlhgagmghahbhaa.Q
