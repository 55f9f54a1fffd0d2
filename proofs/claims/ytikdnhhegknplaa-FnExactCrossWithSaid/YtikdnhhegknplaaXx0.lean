-- Written by wip/tools/myprint.py, a program of this session, by way of the kit's print.
import Derived.Test.YtikdnhhegknplaaProg
import Derived.Below
import Derived.Deep.Draws
import Derived.Deep.AppendLies
import Derived.Maps.AppendAt
import Derived.OwnWalk
import Derived.Laws.BytesArg
import Derived.Laws.MakeOwn
import Derived.Laws.OwnMore
import Derived.Deep.OwnRows
import Derived.Tactics
import Derived.Lib.ConvBytes
import Derived.Laws.Slices
import Derived.WalkKit
import Derived.KernelRfl
import Derived.RowKit3
import Derived.Deep.LoopGhost
import Derived.Deep.QuietTactic
import Derived.BigQuiet
import Derived.WideLaws
import Derived.Deep.DeepCutAuto
import Derived.Deep.CutBlock
import Derived.Deep.RegionHeld3
import Derived.Laws.Rows
import Derived.Lib.AppendStr
import Derived.ArgAppend
import Derived.Laws.IdiomCopy
import Derived.OrdersHeld
import Derived.Laws.BitsLemmas
import Derived.RowKit
import Derived.Test.YtikdnhhegknplaaWWords
import Derived.Test.YtikdnhhegknplaaWLast
import Derived.Test.YtikdnhhegknplaaWTab
import Derived.Test.YtikdnhhegknplaaWFour
import Derived.Test.YtikdnhhegknplaaWQPut
import Derived.Test.YtikdnhhegknplaaWApart
import Derived.Test.YtikdnhhegknplaaWArr
import Derived.Test.YtikdnhhegknplaaWZeros
import Derived.Test.YtikdnhhegknplaaWFoot
import Derived.Test.YtikdnhhegknplaaWKept
import Derived.Test.YtikdnhhegknplaaWShare
import Derived.Test.YtikdnhhegknplaaWN
import Derived.Test.YtikdnhhegknplaaWFootNe
import Derived.Test.YtikdnhhegknplaaWAt
import Derived.Test.YtikdnhhegknplaaWEqStruct
import Derived.Test.YtikdnhhegknplaaWRepsOne
import Derived.Test.YtikdnhhegknplaaWInv
import Derived.Test.YtikdnhhegknplaaWInvWords
import Derived.Test.YtikdnhhegknplaaWGuard
import Derived.Test.YtikdnhhegknplaaWNEv
import Derived.Test.YtikdnhhegknplaaWMore
namespace Go.Proofs.Ytikdnhhegknplaa.X
open Go.RowKit Go.Proofs.YtikdnhhegknplaaW.PrintWords Go.Proofs.YtikdnhhegknplaaW.PrintLast Go.Proofs.YtikdnhhegknplaaW.PrintMore
attribute [local go_sem] max2_int min2_int max_two min_two max_three min_three max_four min_four   -- for this text's walks alone
set_option linter.unusedVariables false
set_option linter.unusedSimpArgs false



def errW : Option Int → Value
  | none => .nilIface
  | some c => .iface 0 (.int .i64 c)
theorem errW_none : errW none = .nilIface := rfl
theorem errW_some (c : Int) : errW (some c) = .iface 0 (.int .i64 c) := rfl

theorem info35 : (Try.prog.info? 35).map (fun i => (i.zero, i.size, i.bytes)) = some (some (.int .u16 0), 1, 2) := by kernel_rfl
-- the values' own types

end Go.Proofs.Ytikdnhhegknplaa.X
