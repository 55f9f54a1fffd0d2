-- Written by wip/tools/myprint.py, a program of this session, by way of the kit's print.
import Derived.Test.YthhihmhcfodjiaaProg
import Derived.Below
import Derived.Deep.Draws
import Derived.Deep.AppendLies
import Derived.Maps.AppendAt
import Derived.OwnWalk
import Derived.Laws.BytesArg
import Derived.Laws.MakeOwn
import Derived.Laws.OwnMore
import Derived.Deep.OwnRows
import Derived.Tactics
import Derived.Lib.ConvBytes
import Derived.Laws.Slices
import Derived.WalkKit
import Derived.KernelRfl
import Derived.RowKit3
import Derived.Deep.LoopGhost
import Derived.Deep.QuietTactic
import Derived.BigQuiet
import Derived.WideLaws
import Derived.Deep.DeepCutAuto
import Derived.Deep.CutBlock
import Derived.Deep.RegionHeld3
import Derived.Laws.Rows
import Derived.Lib.AppendStr
import Derived.ArgAppend
import Derived.Laws.IdiomCopy
import Derived.OrdersHeld
import Derived.Laws.BitsLemmas
import Derived.RowKit
import Derived.Test.YthhihmhcfodjiaaWWords
import Derived.Test.YthhihmhcfodjiaaWLast
import Derived.Test.YthhihmhcfodjiaaWTab
import Derived.Test.YthhihmhcfodjiaaWFour
import Derived.Test.YthhihmhcfodjiaaWQPut
import Derived.Test.YthhihmhcfodjiaaWApart
import Derived.Test.YthhihmhcfodjiaaWArr
import Derived.Test.YthhihmhcfodjiaaWZeros
import Derived.Test.YthhihmhcfodjiaaWFoot
import Derived.Test.YthhihmhcfodjiaaWKept
import Derived.Test.YthhihmhcfodjiaaWShare
import Derived.Test.YthhihmhcfodjiaaWN
import Derived.Test.YthhihmhcfodjiaaWFootNe
import Derived.Test.YthhihmhcfodjiaaWAt
import Derived.Test.YthhihmhcfodjiaaWEqStruct
import Derived.Test.YthhihmhcfodjiaaWRepsOne
import Derived.Test.YthhihmhcfodjiaaWInv
import Derived.Test.YthhihmhcfodjiaaWInvWords
import Derived.Test.YthhihmhcfodjiaaWGuard
import Derived.Test.YthhihmhcfodjiaaWNEv
import Derived.Test.YthhihmhcfodjiaaWMore
namespace Go.Proofs.Ythhihmhcfodjiaa.M
open Go.RowKit Go.Proofs.YthhihmhcfodjiaaW.PrintWords Go.Proofs.YthhihmhcfodjiaaW.PrintLast Go.Proofs.YthhihmhcfodjiaaW.PrintMore
attribute [local go_sem] max2_int min2_int max_two min_two max_three min_three max_four min_four   -- for this text's walks alone
set_option linter.unusedVariables false
set_option linter.unusedSimpArgs false



def errW : Option Int → Value
  | none => .nilIface
  | some c => .iface 0 (.int .i64 c)
theorem errW_none : errW none = .nilIface := rfl
theorem errW_some (c : Int) : errW (some c) = .iface 0 (.int .i64 c) := rfl

theorem info50 : (Try.prog.info? 50).map (fun i => (i.zero, i.size, i.bytes)) = some (some (.int .i16 0), 1, 2) := by kernel_rfl
theorem info51 : (Try.prog.info? 51).map (fun i => (i.zero, i.size, i.bytes)) = some (some (.int .i8 0), 1, 1) := by kernel_rfl
-- the values' own types

end Go.Proofs.Ythhihmhcfodjiaa.M
