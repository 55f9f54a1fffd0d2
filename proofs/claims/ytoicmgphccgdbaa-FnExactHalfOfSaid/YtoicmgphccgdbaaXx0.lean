-- Written by wip/tools/myprint.py, a program of this session, by way of the kit's print.
import Derived.Test.YtoicmgphccgdbaaProg
import Derived.Below
import Derived.Deep.Draws
import Derived.Deep.AppendLies
import Derived.Maps.AppendAt
import Derived.OwnWalk
import Derived.Laws.BytesArg
import Derived.Laws.MakeOwn
import Derived.Laws.OwnMore
import Derived.Deep.OwnRows
import Derived.Tactics
import Derived.Lib.ConvBytes
import Derived.Laws.Slices
import Derived.WalkKit
import Derived.KernelRfl
import Derived.RowKit3
import Derived.Deep.LoopGhost
import Derived.Deep.QuietTactic
import Derived.BigQuiet
import Derived.WideLaws
import Derived.Deep.DeepCutAuto
import Derived.Deep.CutBlock
import Derived.Deep.RegionHeld3
import Derived.Laws.Rows
import Derived.Lib.AppendStr
import Derived.ArgAppend
import Derived.Laws.IdiomCopy
import Derived.OrdersHeld
import Derived.Laws.BitsLemmas
import Derived.RowKit
import Derived.Test.YtoicmgphccgdbaaWWords
import Derived.Test.YtoicmgphccgdbaaWLast
import Derived.Test.YtoicmgphccgdbaaWTab
import Derived.Test.YtoicmgphccgdbaaWFour
import Derived.Test.YtoicmgphccgdbaaWQPut
import Derived.Test.YtoicmgphccgdbaaWApart
import Derived.Test.YtoicmgphccgdbaaWArr
import Derived.Test.YtoicmgphccgdbaaWZeros
import Derived.Test.YtoicmgphccgdbaaWFoot
import Derived.Test.YtoicmgphccgdbaaWKept
import Derived.Test.YtoicmgphccgdbaaWShare
import Derived.Test.YtoicmgphccgdbaaWN
import Derived.Test.YtoicmgphccgdbaaWFootNe
import Derived.Test.YtoicmgphccgdbaaWAt
import Derived.Test.YtoicmgphccgdbaaWEqStruct
import Derived.Test.YtoicmgphccgdbaaWRepsOne
import Derived.Test.YtoicmgphccgdbaaWInv
import Derived.Test.YtoicmgphccgdbaaWInvWords
import Derived.Test.YtoicmgphccgdbaaWGuard
import Derived.Test.YtoicmgphccgdbaaWNEv
import Derived.Test.YtoicmgphccgdbaaWMore
namespace Go.Proofs.Ytoicmgphccgdbaa.X
open Go.RowKit Go.Proofs.YtoicmgphccgdbaaW.PrintWords Go.Proofs.YtoicmgphccgdbaaW.PrintLast Go.Proofs.YtoicmgphccgdbaaW.PrintMore
attribute [local go_sem] max2_int min2_int max_two min_two max_three min_three max_four min_four   -- for this text's walks alone
set_option linter.unusedVariables false
set_option linter.unusedSimpArgs false



def pickA {α : Type} (j i : Int) (a b : α) : α := if j = i then a else b
def errW : Option Int → Value
  | none => .nilIface
  | some c => .iface 0 (.int .i64 c)
theorem errW_none : errW none = .nilIface := rfl
theorem errW_some (c : Int) : errW (some c) = .iface 0 (.int .i64 c) := rfl

-- the values' own types

end Go.Proofs.Ytoicmgphccgdbaa.X
