-- Written by wip/tools/myprint.py, a program of this session, by way of the kit's print.
import Derived.Test.YtgcbhknpfpgffaaProg
import Derived.Below
import Derived.Deep.Draws
import Derived.Deep.AppendLies
import Derived.Maps.AppendAt
import Derived.OwnWalk
import Derived.Laws.BytesArg
import Derived.Laws.MakeOwn
import Derived.Laws.OwnMore
import Derived.Deep.OwnRows
import Derived.Tactics
import Derived.Lib.ConvBytes
import Derived.Laws.Slices
import Derived.WalkKit
import Derived.KernelRfl
import Derived.RowKit3
import Derived.Deep.LoopGhost
import Derived.Deep.QuietTactic
import Derived.BigQuiet
import Derived.WideLaws
import Derived.Deep.DeepCutAuto
import Derived.Deep.CutBlock
import Derived.Deep.RegionHeld3
import Derived.Laws.Rows
import Derived.Lib.AppendStr
import Derived.ArgAppend
import Derived.Laws.IdiomCopy
import Derived.OrdersHeld
import Derived.Laws.BitsLemmas
import Derived.RowKit
import Derived.ChangeKeysEq
import Derived.Test.YtgcbhknpfpgffaaWWords
import Derived.Test.YtgcbhknpfpgffaaWLast
import Derived.Test.YtgcbhknpfpgffaaWTab
import Derived.Test.YtgcbhknpfpgffaaWApart
import Derived.Test.YtgcbhknpfpgffaaWFoot
import Derived.Test.YtgcbhknpfpgffaaWKept
import Derived.Test.YtgcbhknpfpgffaaWShare
import Derived.Test.YtgcbhknpfpgffaaWN
import Derived.Test.YtgcbhknpfpgffaaWAt
import Derived.Laws.StructEq
import Derived.Test.YtgcbhknpfpgffaaWRepsOne
import Derived.Test.YtgcbhknpfpgffaaWMore
namespace Go.Proofs.Ytgcbhknpfpgffaa.C
open Go.RowKit Go.Proofs.YtgcbhknpfpgffaaW.PrintWords Go.Proofs.YtgcbhknpfpgffaaW.PrintLast Go.Proofs.YtgcbhknpfpgffaaW.PrintMore
attribute [local go_sem] zdb zcb zkb zjb zva zwa zbb zab   -- for this text's walks alone
set_option linter.unusedVariables false
set_option linter.unusedSimpArgs false



theorem eqi_cons {P : Program} {w : World} {d : Nat} {e : TypeId} {c : Nat} {xs ys : Array Value} {i : Nat} {is : List Nat} {a b : Value} {r s : Bool} (ha : (part e xs (i * c)).run P w = .ok a w) (hb : (part e ys (i * c)).run P w = .ok b w) (he : (Op.equalIn d e a b).run P w = .ok r w) (hr : (Op.eqItems d e c xs ys is).run P w = .ok s w) :
  (Op.eqItems d e c xs ys (i :: is)).run P w = .ok (r && s) w := by
 simp only [Op.eqItems, Sem.run_bind, ha, hb, he, Result.andThen_ok]
 cases r
 ·simp
 ·simpa using hr
theorem eqi_last {P : Program} {w : World} {d : Nat} {e : TypeId} {c : Nat} {xs ys : Array Value} {i : Nat} {a b : Value} {r : Bool} (ha : (part e xs (i * c)).run P w = .ok a w) (hb : (part e ys (i * c)).run P w = .ok b w) (he : (Op.equalIn d e a b).run P w = .ok r w) :
  (Op.eqItems d e c xs ys [i]).run P w = .ok r w := by
 have h := eqi_cons (is := []) (s := true) ha hb he (by simp [Op.eqItems])
 rwa [Bool.and_true] at h
theorem wl_0 : wrap64 0 = 0 := by decide +kernel
theorem wl_1 : wrap64 1 = 1 := by decide +kernel
theorem wl_2 : wrap64 2 = 2 := by decide +kernel
theorem wl_3 : wrap64 3 = 3 := by decide +kernel
theorem wl_4 : wrap64 4 = 4 := by decide +kernel
def zqa {α : Type} (j i : Int) (a b : α) : α := if j = i then a else b
def errW : Option Int → Value
 | none => .nilIface
 | some c => .iface 0 (.int .i64 c)
theorem zca : errW none = .nilIface := rfl
theorem zda (c : Int) : errW (some c) = .iface 0 (.int .i64 c) := rfl

-- the values' own types

end Go.Proofs.Ytgcbhknpfpgffaa.C
