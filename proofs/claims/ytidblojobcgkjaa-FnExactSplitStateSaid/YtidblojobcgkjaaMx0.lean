-- Written by wip/tools/myprint.py, a program of this session, by way of the kit's print.
import Derived.Test.YtidblojobcgkjaaProg
import Derived.Below
import Derived.Deep.Draws
import Derived.Deep.AppendLies
import Derived.Maps.AppendAt
import Derived.OwnWalk
import Derived.Laws.BytesArg
import Derived.Laws.MakeOwn
import Derived.Laws.OwnMore
import Derived.Deep.OwnRows
import Derived.Tactics
import Derived.Lib.ConvBytes
import Derived.Laws.Slices
import Derived.WalkKit
import Derived.KernelRfl
import Derived.RowKit3
import Derived.Deep.LoopGhost
import Derived.Deep.QuietTactic
import Derived.BigQuiet
import Derived.WideLaws
import Derived.Deep.DeepCutAuto
import Derived.Deep.CutBlock
import Derived.Deep.RegionHeld3
import Derived.Laws.Rows
import Derived.Lib.AppendStr
import Derived.ArgAppend
import Derived.Laws.IdiomCopy
import Derived.OrdersHeld
import Derived.Laws.BitsLemmas
import Derived.RowKit
import Derived.Test.YtidblojobcgkjaaWWords
import Derived.Test.YtidblojobcgkjaaWLast
import Derived.Test.YtidblojobcgkjaaWTab
import Derived.Test.YtidblojobcgkjaaWFour
import Derived.Test.YtidblojobcgkjaaWQPut
import Derived.Test.YtidblojobcgkjaaWApart
import Derived.Test.YtidblojobcgkjaaWArr
import Derived.Test.YtidblojobcgkjaaWZeros
import Derived.Test.YtidblojobcgkjaaWFoot
import Derived.Test.YtidblojobcgkjaaWKept
import Derived.Test.YtidblojobcgkjaaWShare
import Derived.Test.YtidblojobcgkjaaWN
import Derived.Test.YtidblojobcgkjaaWFootNe
import Derived.Test.YtidblojobcgkjaaWAt
import Derived.Test.YtidblojobcgkjaaWEqStruct
import Derived.Test.YtidblojobcgkjaaWRepsOne
import Derived.Test.YtidblojobcgkjaaWInv
import Derived.Test.YtidblojobcgkjaaWInvWords
import Derived.Test.YtidblojobcgkjaaWGuard
import Derived.Test.YtidblojobcgkjaaWNEv
import Derived.Test.YtidblojobcgkjaaWMore
namespace Go.Proofs.Ytidblojobcgkjaa.M
open Go.RowKit Go.Proofs.YtidblojobcgkjaaW.PrintWords Go.Proofs.YtidblojobcgkjaaW.PrintLast Go.Proofs.YtidblojobcgkjaaW.PrintMore
attribute [local go_sem] max2_int min2_int max_two min_two zpa zoa max_four min_four   -- for this text's walks alone
set_option linter.unusedVariables false
set_option linter.unusedSimpArgs false



theorem wl_0 : wrap64 0 = 0 := by decide +kernel
theorem wl_1 : wrap64 1 = 1 := by decide +kernel
theorem wl_2 : wrap64 2 = 2 := by decide +kernel
theorem wl_3 : wrap64 3 = 3 := by decide +kernel
theorem wl_4 : wrap64 4 = 4 := by decide +kernel
def pickA {α : Type} (j i : Int) (a b : α) : α := if j = i then a else b
def errW : Option Int → Value
 | none => .nilIface
 | some c => .iface 0 (.int .i64 c)
theorem errW_none : errW none = .nilIface := rfl
theorem errW_some (c : Int) : errW (some c) = .iface 0 (.int .i64 c) := rfl

-- the values' own types

end Go.Proofs.Ytidblojobcgkjaa.M
