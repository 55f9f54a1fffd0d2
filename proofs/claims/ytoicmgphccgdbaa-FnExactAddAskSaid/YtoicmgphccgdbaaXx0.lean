-- Written by wip/tools/myprint.py, a program of this session, by way of the kit's print.
import Derived.Test.YtoicmgphccgdbaaProg
import Derived.Below
import Derived.Deep.Draws
import Derived.Deep.AppendLies
import Derived.Maps.AppendAt
import Derived.OwnWalk
import Derived.Laws.BytesArg
import Derived.Laws.MakeOwn
import Derived.Laws.OwnMore
import Derived.Deep.OwnRows
import Derived.Tactics
import Derived.Lib.ConvBytes
import Derived.Laws.Slices
import Derived.WalkKit
import Derived.KernelRfl
import Derived.RowKit3
import Derived.Deep.LoopGhost
import Derived.Deep.QuietTactic
import Derived.BigQuiet
import Derived.WideLaws
import Derived.Deep.DeepCutAuto
import Derived.Deep.CutBlock
import Derived.Deep.RegionHeld3
import Derived.Laws.Rows
import Derived.Lib.AppendStr
import Derived.ArgAppend
import Derived.Laws.IdiomCopy
import Derived.OrdersHeld
import Derived.Laws.BitsLemmas
import Derived.RowKit
import Derived.Test.YtoicmgphccgdbaaWWords
import Derived.Test.YtoicmgphccgdbaaWLast
import Derived.Test.YtoicmgphccgdbaaWTab
import Derived.Test.YtoicmgphccgdbaaWFour
import Derived.Test.YtoicmgphccgdbaaWQPut
import Derived.Test.YtoicmgphccgdbaaWApart
import Derived.Test.YtoicmgphccgdbaaWArr
import Derived.Test.YtoicmgphccgdbaaWZeros
import Derived.Test.YtoicmgphccgdbaaWFoot
import Derived.Test.YtoicmgphccgdbaaWKept
import Derived.Test.YtoicmgphccgdbaaWShare
import Derived.Test.YtoicmgphccgdbaaWN
import Derived.Test.YtoicmgphccgdbaaWFootNe
import Derived.Test.YtoicmgphccgdbaaWAt
import Derived.Test.YtoicmgphccgdbaaWEqStruct
import Derived.Test.YtoicmgphccgdbaaWRepsOne
import Derived.Test.YtoicmgphccgdbaaWInv
import Derived.Test.YtoicmgphccgdbaaWInvWords
import Derived.Test.YtoicmgphccgdbaaWGuard
import Derived.Test.YtoicmgphccgdbaaWNEv
import Derived.Test.YtoicmgphccgdbaaWMore
namespace Go.Proofs.Ytoicmgphccgdbaa.X
open Go.RowKit Go.Proofs.YtoicmgphccgdbaaW.PrintWords Go.Proofs.YtoicmgphccgdbaaW.PrintLast Go.Proofs.YtoicmgphccgdbaaW.PrintMore
attribute [local go_sem] max2_int min2_int max_two min_two max_three min_three max_four min_four   -- for this text's walks alone
set_option linter.unusedVariables false
set_option linter.unusedSimpArgs false



def pickA {α : Type} (j i : Int) (a b : α) : α := if j = i then a else b
def errW : Option Int → Value
  | none => .nilIface
  | some c => .iface 0 (.int .i64 c)
theorem errW_none : errW none = .nilIface := rfl
theorem errW_some (c : Int) : errW (some c) = .iface 0 (.int .i64 c) := rfl

theorem info75 : (Try.prog.info? 75).map (fun i => (i.zero, i.size, i.bytes)) = some (some (.agg #[(.int .u64 0), (.bool false)]), 2, 16) := by kernel_rfl
-- the values' own types
/-! #### struct type 75 -/
structure S75 where
  f0 : Int
  f1 : Bool
def z75 : S75 := ⟨(0 : Int), false⟩
def k75 : Kd S75 := Kd.iso (Kd.pair (Kd.int .u64) Kd.bool) (fun x : S75 => (x.f0, x.f1))
theorem k75_open {w : World} {x : S75} {cs : List Value} (h : k75.K w x cs) : cs = [.int .u64 x.f0, .bool x.f1] := by
  obtain ⟨_, _, rfl, rfl, rfl⟩ := h
  exact rfl
theorem k75_openM {w : World} {base : Nat} {ok : Nat → Prop} {x : S75} {cs : List Value} (h : k75.M w base ok x cs) : cs = [.int .u64 x.f0, .bool x.f1] := by
  obtain ⟨_, _, rfl, rfl, rfl⟩ := h
  exact rfl
theorem k75_mk (w : World) (x : S75)  : k75.K w x [.int .u64 x.f0, .bool x.f1] := ⟨[.int .u64 x.f0], [.bool x.f1], rfl, rfl, rfl⟩
theorem k75_mkM (w : World) (base : Nat) (ok : Nat → Prop) (x : S75)  : k75.M w base ok x [.int .u64 x.f0, .bool x.f1] := ⟨[.int .u64 x.f0], [.bool x.f1], rfl, rfl, rfl⟩
def rd_T75 (xs : List S75) (i : Int) : S75 := xs.getD i.toNat z75
theorem at_T75 {w : World} {A : Option Addr} {n : Nat} {xs : List S75} (h : Kd.C k75 w A n xs) (i : Int) (h0 : 0 ≤ i) (h1 : i < n) : ∃ ad , A = some ad ∧ w.cell? (ad.add (i.toNat * 2)) = some (.int .u64 (rd_T75 xs i).f0) ∧ w.cell? ⟨(ad.add (i.toNat * 2)).block, (ad.add (i.toNat * 2)).off + 1, none⟩ = some (.bool (rd_T75 xs i).f1) := by
  obtain ⟨ad, c, e, _, hK, hc0⟩ := Kd.C_get h z75 i h0 h1
  have hc : ∀ j u, c[j]? = some u → w.cell? (ad.add (i.toNat * 2 + j)) = some u := hc0
  obtain rfl := k75_open hK
  exact ⟨ad, e, hc 0 _ rfl, by rw [← add_field _ _ 1 (by omega)]; exact hc 1 _ rfl⟩

/-! #### struct type 97 -/
structure S97 where
  f0 : Int
  f1 : Bool
def z97 : S97 := ⟨(0 : Int), false⟩
def k97 : Kd S97 := Kd.iso (Kd.pair (Kd.int .u64) Kd.bool) (fun x : S97 => (x.f0, x.f1))
theorem k97_open {w : World} {x : S97} {cs : List Value} (h : k97.K w x cs) : cs = [.int .u64 x.f0, .bool x.f1] := by
  obtain ⟨_, _, rfl, rfl, rfl⟩ := h
  exact rfl
theorem k97_openM {w : World} {base : Nat} {ok : Nat → Prop} {x : S97} {cs : List Value} (h : k97.M w base ok x cs) : cs = [.int .u64 x.f0, .bool x.f1] := by
  obtain ⟨_, _, rfl, rfl, rfl⟩ := h
  exact rfl
theorem k97_mk (w : World) (x : S97)  : k97.K w x [.int .u64 x.f0, .bool x.f1] := ⟨[.int .u64 x.f0], [.bool x.f1], rfl, rfl, rfl⟩
theorem k97_mkM (w : World) (base : Nat) (ok : Nat → Prop) (x : S97)  : k97.M w base ok x [.int .u64 x.f0, .bool x.f1] := ⟨[.int .u64 x.f0], [.bool x.f1], rfl, rfl, rfl⟩
def rd_T97 (xs : List S97) (i : Int) : S97 := xs.getD i.toNat z97
theorem at_T97 {w : World} {A : Option Addr} {n : Nat} {xs : List S97} (h : Kd.C k97 w A n xs) (i : Int) (h0 : 0 ≤ i) (h1 : i < n) : ∃ ad , A = some ad ∧ w.cell? (ad.add (i.toNat * 2)) = some (.int .u64 (rd_T97 xs i).f0) ∧ w.cell? ⟨(ad.add (i.toNat * 2)).block, (ad.add (i.toNat * 2)).off + 1, none⟩ = some (.bool (rd_T97 xs i).f1) := by
  obtain ⟨ad, c, e, _, hK, hc0⟩ := Kd.C_get h z97 i h0 h1
  have hc : ∀ j u, c[j]? = some u → w.cell? (ad.add (i.toNat * 2 + j)) = some u := hc0
  obtain rfl := k97_open hK
  exact ⟨ad, e, hc 0 _ rfl, by rw [← add_field _ _ 1 (by omega)]; exact hc 1 _ rfl⟩

end Go.Proofs.Ytoicmgphccgdbaa.X
