-- Written by wip/tools/myprint.py, a program of this session, by way of the kit's print.
import Derived.Test.YtonhinbblofpaaaProg
import Derived.Below
import Derived.Deep.Draws
import Derived.Deep.AppendLies
import Derived.Maps.AppendAt
import Derived.OwnWalk
import Derived.Laws.BytesArg
import Derived.Laws.MakeOwn
import Derived.Laws.OwnMore
import Derived.Deep.OwnRows
import Derived.Tactics
import Derived.Lib.ConvBytes
import Derived.Laws.Slices
import Derived.WalkKit
import Derived.KernelRfl
import Derived.RowKit3
import Derived.Deep.LoopGhost
import Derived.Deep.QuietTactic
import Derived.BigQuiet
import Derived.WideLaws
import Derived.Deep.DeepCutAuto
import Derived.Deep.CutBlock
import Derived.Deep.RegionHeld3
import Derived.Laws.Rows
import Derived.Lib.AppendStr
import Derived.ArgAppend
import Derived.Laws.IdiomCopy
import Derived.OrdersHeld
import Derived.Laws.BitsLemmas
import Derived.RowKit
import Derived.Test.YtonhinbblofpaaaWWords
import Derived.Test.YtonhinbblofpaaaWLast
import Derived.Test.YtonhinbblofpaaaWTab
import Derived.Test.YtonhinbblofpaaaWFour
import Derived.Test.YtonhinbblofpaaaWQPut
import Derived.Test.YtonhinbblofpaaaWApart
import Derived.Test.YtonhinbblofpaaaWArr
import Derived.Test.YtonhinbblofpaaaWZeros
import Derived.Test.YtonhinbblofpaaaWFoot
import Derived.Test.YtonhinbblofpaaaWKept
import Derived.Test.YtonhinbblofpaaaWShare
import Derived.Test.YtonhinbblofpaaaWN
import Derived.Test.YtonhinbblofpaaaWFootNe
import Derived.Test.YtonhinbblofpaaaWAt
import Derived.Test.YtonhinbblofpaaaWEqStruct
import Derived.Test.YtonhinbblofpaaaWRepsOne
import Derived.Test.YtonhinbblofpaaaWInv
import Derived.Test.YtonhinbblofpaaaWInvWords
import Derived.Test.YtonhinbblofpaaaWGuard
import Derived.Test.YtonhinbblofpaaaWNEv
import Derived.Test.YtonhinbblofpaaaWMore
namespace Go.Proofs.Ytonhinbblofpaaa.M
open Go.RowKit Go.Proofs.YtonhinbblofpaaaW.PrintWords Go.Proofs.YtonhinbblofpaaaW.PrintLast Go.Proofs.YtonhinbblofpaaaW.PrintMore
attribute [local go_sem] max2_int min2_int max_two min_two max_three min_three max_four min_four   -- for this text's walks alone
set_option linter.unusedVariables false
set_option linter.unusedSimpArgs false



def pickA {α : Type} (j i : Int) (a b : α) : α := if j = i then a else b
def errW : Option Int → Value
  | none => .nilIface
  | some c => .iface 0 (.int .i64 c)
theorem errW_none : errW none = .nilIface := rfl
theorem errW_some (c : Int) : errW (some c) = .iface 0 (.int .i64 c) := rfl

theorem info5 : (Try.prog.info? 5).map (fun i => (i.zero, i.size, i.bytes)) = some (some (.int .u8 0), 1, 1) := by kernel_rfl
-- the values' own types

end Go.Proofs.Ytonhinbblofpaaa.M
