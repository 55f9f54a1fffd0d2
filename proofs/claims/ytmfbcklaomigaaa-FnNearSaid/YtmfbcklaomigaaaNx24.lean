-- Written by wip/tools/myprint.py, a program of this session, by way of the kit's print.
import Derived.Test.YtmfbcklaomigaaaNx0
import Derived.Test.YtmfbcklaomigaaaNx23
import Derived.Test.YtmfbcklaomigaaaLPrN
namespace Go.Proofs.Ytmfbcklaomigaaa.N
open Go.RowKit Go.Proofs.YtmfbcklaomigaaaW.PrintWords Go.Proofs.YtmfbcklaomigaaaW.PrintLast Go.Proofs.YtmfbcklaomigaaaW.PrintMore
attribute [local go_sem] zqa zpa zwa zxa zla zka zra zta   -- for this text's walks alone
set_option linter.unusedVariables false
set_option linter.unusedSimpArgs false

/-! ### impl_Case_84_85: function 1084085 -/
def impl_Case_84_85.l0 : Nat → List (S38) → List (S38) → Int → Int → Int → List (S43) → Int → Int → Int → Int → Int → Option ((List (S38)))
 | 0, _, _, _, _, _, _, _, _, _, _, _ => none
 | k + 1, x0, x4, x6, x31000, x31001, x31002, x32000, x32001, x32002, x32003, x33000 => if x6 < (x0.length : Int) then (if 0 ≤ x6 then ((impl_DecodeNear_1.f k ((zf x0 x6).f0) ((zf x0 x6).f1) x31000 x31001 x31002 x32000 x32001 x32002 x32003 x33000).bind fun t405 => (if t405 = true then (impl_Case_84_85.l0 k x0 x4 (wrap64 (x6 + 1)) x31000 x31001 x31002 x32000 x32001 x32002 x32003 x33000) else (if x4.length < 70368744177664 then (impl_Case_84_85.l0 k x0 (x4 ++ [(⟨(zf x0 x6).f0, (zf x0 x6).f1⟩ : S38)]) (wrap64 (x6 + 1)) x31000 x31001 x31002 x32000 x32001 x32002 x32003 x33000) else (none)))) else (none)) else (some x4)
def impl_Case_84_85.f (k : Nat) (l0 : List (S38)) (a1_0 : Int) (a1_1 : Int) (l1_2 : List (S43)) (a1_3 : Int) (a1_4 : Int) (a1_5 : Int) (a1_6 : Int) (a1_7 : Int) : Option ((List (S38))) := (impl_Case_79_85.f k l0 a1_0 a1_1 l1_2 a1_3 a1_4 a1_5 a1_6 a1_7).bind fun t399 => (impl_Case_84_85.l0 k l0 (([] : List (S38))) 0 a1_0 a1_1 l1_2 a1_3 a1_4 a1_5 a1_6 a1_7)
end Go.Proofs.Ytmfbcklaomigaaa.N
