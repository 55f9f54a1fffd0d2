-- Written by wip/tools/myprint.py, a program of this session, by way of the kit's print.
import Derived.Test.YtmmonhpjjjdnjaaProg
import Derived.Below
import Derived.Deep.Draws
import Derived.Deep.AppendLies
import Derived.Maps.AppendAt
import Derived.OwnWalk
import Derived.Laws.BytesArg
import Derived.Laws.MakeOwn
import Derived.Laws.OwnMore
import Derived.Deep.OwnRows
import Derived.Tactics
import Derived.Lib.ConvBytes
import Derived.Laws.Slices
import Derived.WalkKit
import Derived.KernelRfl
import Derived.RowKit3
import Derived.Deep.LoopGhost
import Derived.Deep.QuietTactic
import Derived.BigQuiet
import Derived.WideLaws
import Derived.Deep.DeepCutAuto
import Derived.Deep.CutBlock
import Derived.Deep.RegionHeld3
import Derived.Laws.Rows
import Derived.Lib.AppendStr
import Derived.ArgAppend
import Derived.Laws.IdiomCopy
import Derived.OrdersHeld
import Derived.Laws.BitsLemmas
import Derived.RowKit
import Derived.ChangeKeysEq
import Derived.Test.YtmmonhpjjjdnjaaWWords
import Derived.Test.YtmmonhpjjjdnjaaWLast
import Derived.Test.YtmmonhpjjjdnjaaWTab
import Derived.Test.YtmmonhpjjjdnjaaWFour
import Derived.Test.YtmmonhpjjjdnjaaWQPut
import Derived.Test.YtmmonhpjjjdnjaaWApart
import Derived.Test.YtmmonhpjjjdnjaaWArr
import Derived.Test.YtmmonhpjjjdnjaaWZeros
import Derived.Test.YtmmonhpjjjdnjaaWFoot
import Derived.Test.YtmmonhpjjjdnjaaWKept
import Derived.Test.YtmmonhpjjjdnjaaWShare
import Derived.Test.YtmmonhpjjjdnjaaWN
import Derived.Test.YtmmonhpjjjdnjaaWFootNe
import Derived.Test.YtmmonhpjjjdnjaaWAt
import Derived.Test.YtmmonhpjjjdnjaaWEqStruct
import Derived.Test.YtmmonhpjjjdnjaaWRepsOne
import Derived.Test.YtmmonhpjjjdnjaaWInv
import Derived.Test.YtmmonhpjjjdnjaaWInvWords
import Derived.Test.YtmmonhpjjjdnjaaWGuard
import Derived.Test.YtmmonhpjjjdnjaaWNEv
import Derived.Test.YtmmonhpjjjdnjaaWMore
namespace Go.Proofs.Ytmmonhpjjjdnjaa.U
open Go.RowKit Go.Proofs.YtmmonhpjjjdnjaaW.PrintWords Go.Proofs.YtmmonhpjjjdnjaaW.PrintLast Go.Proofs.YtmmonhpjjjdnjaaW.PrintMore
attribute [local go_sem] zba zea zha zia zy zz zda zca   -- for this text's walks alone
set_option linter.unusedVariables false
set_option linter.unusedSimpArgs false



theorem eqi_cons {P : Program} {w : World} {d : Nat} {e : TypeId} {c : Nat} {xs ys : Array Value} {i : Nat} {is : List Nat} {a b : Value} {r s : Bool} (ha : (part e xs (i * c)).run P w = .ok a w) (hb : (part e ys (i * c)).run P w = .ok b w) (he : (Op.equalIn d e a b).run P w = .ok r w) (hr : (Op.eqItems d e c xs ys is).run P w = .ok s w) :
  (Op.eqItems d e c xs ys (i :: is)).run P w = .ok (r && s) w := by
 simp only [Op.eqItems, Sem.run_bind, ha, hb, he, Result.andThen_ok]
 cases r
 ·simp
 ·simpa using hr
theorem eqi_last {P : Program} {w : World} {d : Nat} {e : TypeId} {c : Nat} {xs ys : Array Value} {i : Nat} {a b : Value} {r : Bool} (ha : (part e xs (i * c)).run P w = .ok a w) (hb : (part e ys (i * c)).run P w = .ok b w) (he : (Op.equalIn d e a b).run P w = .ok r w) :
  (Op.eqItems d e c xs ys [i]).run P w = .ok r w := by
 have h := eqi_cons (is := []) (s := true) ha hb he (by simp [Op.eqItems])
 rwa [Bool.and_true] at h
def pickA {α : Type} (j i : Int) (a b : α) : α := if j = i then a else b
def errW : Option Int → Value
 | none => .nilIface
 | some c => .iface 0 (.int .i64 c)
theorem errW_none : errW none = .nilIface := rfl
theorem errW_some (c : Int) : errW (some c) = .iface 0 (.int .i64 c) := rfl

theorem info46 : (Try.prog.info? 46).map (fun i => (i.zero, i.size, i.bytes)) = some (some (.agg #[(.int .i8 0), (.bool false)]), 2, 2) := by kernel_rfl
theorem info54 : (Try.prog.info? 54).map (fun i => (i.zero, i.size, i.bytes)) = some (some (.agg #[(.int .i8 0), (.int .i8 0), (.int .i8 0), (.int .i8 0), (.int .i8 0), (.int .i8 0), (.int .i8 0), (.int .i8 0), (.int .i8 0), (.int .i8 0), (.int .i8 0), (.int .i8 0), (.int .i8 0), (.int .i8 0), (.int .i16 0), (.int .i16 0), (.int .i16 0), (.int .i8 0), (.bool false), (.bool false)]), 20, 24) := by kernel_rfl
-- the values' own types
/-! #### struct type 49 -/
structure S49 where
 f0 : Int
 f1 : Int
 f2 : Int
 f3 : Int
 f4 : Int
 f5 : Int
 f6 : Int
 f7 : Int
 f8 : Int
 f9 : Int
 f10 : Int
 f11 : Int
 f12 : Int
 f13 : Int
def z49 : S49 := ⟨(0 : Int), (0 : Int), (0 : Int), (0 : Int), (0 : Int), (0 : Int), (0 : Int), (0 : Int), (0 : Int), (0 : Int), (0 : Int), (0 : Int), (0 : Int), (0 : Int)⟩
def k49 : Kd S49 := Kd.iso (Kd.pair (Kd.int .i8) (Kd.pair (Kd.int .i8) (Kd.pair (Kd.int .i8) (Kd.pair (Kd.int .i8) (Kd.pair (Kd.int .i8) (Kd.pair (Kd.int .i8) (Kd.pair (Kd.int .i8) (Kd.pair (Kd.int .i8) (Kd.pair (Kd.int .i8) (Kd.pair (Kd.int .i8) (Kd.pair (Kd.int .i8) (Kd.pair (Kd.int .i8) (Kd.pair (Kd.int .i8) (Kd.int .i8)))))))))))))) (fun x : S49 => (x.f0, x.f1, x.f2, x.f3, x.f4, x.f5, x.f6, x.f7, x.f8, x.f9, x.f10, x.f11, x.f12, x.f13))
theorem k49_open {w : World} {x : S49} {cs : List Value} (h : k49.K w x cs) : cs = [.int .i8 x.f0, .int .i8 x.f1, .int .i8 x.f2, .int .i8 x.f3, .int .i8 x.f4, .int .i8 x.f5, .int .i8 x.f6, .int .i8 x.f7, .int .i8 x.f8, .int .i8 x.f9, .int .i8 x.f10, .int .i8 x.f11, .int .i8 x.f12, .int .i8 x.f13] := by
 obtain ⟨_, _, rfl, rfl, ⟨_, _, rfl, rfl, ⟨_, _, rfl, rfl, ⟨_, _, rfl, rfl, ⟨_, _, rfl, rfl, ⟨_, _, rfl, rfl, ⟨_, _, rfl, rfl, ⟨_, _, rfl, rfl, ⟨_, _, rfl, rfl, ⟨_, _, rfl, rfl, ⟨_, _, rfl, rfl, ⟨_, _, rfl, rfl, ⟨_, _, rfl, rfl, rfl⟩⟩⟩⟩⟩⟩⟩⟩⟩⟩⟩⟩⟩ := h
 exact rfl
theorem k49_openM {w : World} {base : Nat} {ok : Nat → Prop} {x : S49} {cs : List Value} (h : k49.M w base ok x cs) : cs = [.int .i8 x.f0, .int .i8 x.f1, .int .i8 x.f2, .int .i8 x.f3, .int .i8 x.f4, .int .i8 x.f5, .int .i8 x.f6, .int .i8 x.f7, .int .i8 x.f8, .int .i8 x.f9, .int .i8 x.f10, .int .i8 x.f11, .int .i8 x.f12, .int .i8 x.f13] := by
 obtain ⟨_, _, rfl, rfl, ⟨_, _, rfl, rfl, ⟨_, _, rfl, rfl, ⟨_, _, rfl, rfl, ⟨_, _, rfl, rfl, ⟨_, _, rfl, rfl, ⟨_, _, rfl, rfl, ⟨_, _, rfl, rfl, ⟨_, _, rfl, rfl, ⟨_, _, rfl, rfl, ⟨_, _, rfl, rfl, ⟨_, _, rfl, rfl, ⟨_, _, rfl, rfl, rfl⟩⟩⟩⟩⟩⟩⟩⟩⟩⟩⟩⟩⟩ := h
 exact rfl
theorem k49_mk (w : World) (x : S49)  : k49.K w x [.int .i8 x.f0, .int .i8 x.f1, .int .i8 x.f2, .int .i8 x.f3, .int .i8 x.f4, .int .i8 x.f5, .int .i8 x.f6, .int .i8 x.f7, .int .i8 x.f8, .int .i8 x.f9, .int .i8 x.f10, .int .i8 x.f11, .int .i8 x.f12, .int .i8 x.f13] := ⟨[.int .i8 x.f0], [.int .i8 x.f1, .int .i8 x.f2, .int .i8 x.f3, .int .i8 x.f4, .int .i8 x.f5, .int .i8 x.f6, .int .i8 x.f7, .int .i8 x.f8, .int .i8 x.f9, .int .i8 x.f10, .int .i8 x.f11, .int .i8 x.f12, .int .i8 x.f13], rfl, rfl, ⟨[.int .i8 x.f1], [.int .i8 x.f2, .int .i8 x.f3, .int .i8 x.f4, .int .i8 x.f5, .int .i8 x.f6, .int .i8 x.f7, .int .i8 x.f8, .int .i8 x.f9, .int .i8 x.f10, .int .i8 x.f11, .int .i8 x.f12, .int .i8 x.f13], rfl, rfl, ⟨[.int .i8 x.f2], [.int .i8 x.f3, .int .i8 x.f4, .int .i8 x.f5, .int .i8 x.f6, .int .i8 x.f7, .int .i8 x.f8, .int .i8 x.f9, .int .i8 x.f10, .int .i8 x.f11, .int .i8 x.f12, .int .i8 x.f13], rfl, rfl, ⟨[.int .i8 x.f3], [.int .i8 x.f4, .int .i8 x.f5, .int .i8 x.f6, .int .i8 x.f7, .int .i8 x.f8, .int .i8 x.f9, .int .i8 x.f10, .int .i8 x.f11, .int .i8 x.f12, .int .i8 x.f13], rfl, rfl, ⟨[.int .i8 x.f4], [.int .i8 x.f5, .int .i8 x.f6, .int .i8 x.f7, .int .i8 x.f8, .int .i8 x.f9, .int .i8 x.f10, .int .i8 x.f11, .int .i8 x.f12, .int .i8 x.f13], rfl, rfl, ⟨[.int .i8 x.f5], [.int .i8 x.f6, .int .i8 x.f7, .int .i8 x.f8, .int .i8 x.f9, .int .i8 x.f10, .int .i8 x.f11, .int .i8 x.f12, .int .i8 x.f13], rfl, rfl, ⟨[.int .i8 x.f6], [.int .i8 x.f7, .int .i8 x.f8, .int .i8 x.f9, .int .i8 x.f10, .int .i8 x.f11, .int .i8 x.f12, .int .i8 x.f13], rfl, rfl, ⟨[.int .i8 x.f7], [.int .i8 x.f8, .int .i8 x.f9, .int .i8 x.f10, .int .i8 x.f11, .int .i8 x.f12, .int .i8 x.f13], rfl, rfl, ⟨[.int .i8 x.f8], [.int .i8 x.f9, .int .i8 x.f10, .int .i8 x.f11, .int .i8 x.f12, .int .i8 x.f13], rfl, rfl, ⟨[.int .i8 x.f9], [.int .i8 x.f10, .int .i8 x.f11, .int .i8 x.f12, .int .i8 x.f13], rfl, rfl, ⟨[.int .i8 x.f10], [.int .i8 x.f11, .int .i8 x.f12, .int .i8 x.f13], rfl, rfl, ⟨[.int .i8 x.f11], [.int .i8 x.f12, .int .i8 x.f13], rfl, rfl, ⟨[.int .i8 x.f12], [.int .i8 x.f13], rfl, rfl, rfl⟩⟩⟩⟩⟩⟩⟩⟩⟩⟩⟩⟩⟩
theorem k49_mkM (w : World) (base : Nat) (ok : Nat → Prop) (x : S49)  : k49.M w base ok x [.int .i8 x.f0, .int .i8 x.f1, .int .i8 x.f2, .int .i8 x.f3, .int .i8 x.f4, .int .i8 x.f5, .int .i8 x.f6, .int .i8 x.f7, .int .i8 x.f8, .int .i8 x.f9, .int .i8 x.f10, .int .i8 x.f11, .int .i8 x.f12, .int .i8 x.f13] := ⟨[.int .i8 x.f0], [.int .i8 x.f1, .int .i8 x.f2, .int .i8 x.f3, .int .i8 x.f4, .int .i8 x.f5, .int .i8 x.f6, .int .i8 x.f7, .int .i8 x.f8, .int .i8 x.f9, .int .i8 x.f10, .int .i8 x.f11, .int .i8 x.f12, .int .i8 x.f13], rfl, rfl, ⟨[.int .i8 x.f1], [.int .i8 x.f2, .int .i8 x.f3, .int .i8 x.f4, .int .i8 x.f5, .int .i8 x.f6, .int .i8 x.f7, .int .i8 x.f8, .int .i8 x.f9, .int .i8 x.f10, .int .i8 x.f11, .int .i8 x.f12, .int .i8 x.f13], rfl, rfl, ⟨[.int .i8 x.f2], [.int .i8 x.f3, .int .i8 x.f4, .int .i8 x.f5, .int .i8 x.f6, .int .i8 x.f7, .int .i8 x.f8, .int .i8 x.f9, .int .i8 x.f10, .int .i8 x.f11, .int .i8 x.f12, .int .i8 x.f13], rfl, rfl, ⟨[.int .i8 x.f3], [.int .i8 x.f4, .int .i8 x.f5, .int .i8 x.f6, .int .i8 x.f7, .int .i8 x.f8, .int .i8 x.f9, .int .i8 x.f10, .int .i8 x.f11, .int .i8 x.f12, .int .i8 x.f13], rfl, rfl, ⟨[.int .i8 x.f4], [.int .i8 x.f5, .int .i8 x.f6, .int .i8 x.f7, .int .i8 x.f8, .int .i8 x.f9, .int .i8 x.f10, .int .i8 x.f11, .int .i8 x.f12, .int .i8 x.f13], rfl, rfl, ⟨[.int .i8 x.f5], [.int .i8 x.f6, .int .i8 x.f7, .int .i8 x.f8, .int .i8 x.f9, .int .i8 x.f10, .int .i8 x.f11, .int .i8 x.f12, .int .i8 x.f13], rfl, rfl, ⟨[.int .i8 x.f6], [.int .i8 x.f7, .int .i8 x.f8, .int .i8 x.f9, .int .i8 x.f10, .int .i8 x.f11, .int .i8 x.f12, .int .i8 x.f13], rfl, rfl, ⟨[.int .i8 x.f7], [.int .i8 x.f8, .int .i8 x.f9, .int .i8 x.f10, .int .i8 x.f11, .int .i8 x.f12, .int .i8 x.f13], rfl, rfl, ⟨[.int .i8 x.f8], [.int .i8 x.f9, .int .i8 x.f10, .int .i8 x.f11, .int .i8 x.f12, .int .i8 x.f13], rfl, rfl, ⟨[.int .i8 x.f9], [.int .i8 x.f10, .int .i8 x.f11, .int .i8 x.f12, .int .i8 x.f13], rfl, rfl, ⟨[.int .i8 x.f10], [.int .i8 x.f11, .int .i8 x.f12, .int .i8 x.f13], rfl, rfl, ⟨[.int .i8 x.f11], [.int .i8 x.f12, .int .i8 x.f13], rfl, rfl, ⟨[.int .i8 x.f12], [.int .i8 x.f13], rfl, rfl, rfl⟩⟩⟩⟩⟩⟩⟩⟩⟩⟩⟩⟩⟩
def rd_T49 (xs : List S49) (i : Int) : S49 := xs.getD i.toNat z49
theorem at_T49 {w : World} {A : Option Addr} {n : Nat} {xs : List S49} (h : Kd.C k49 w A n xs) (i : Int) (h0 : 0 ≤ i) (h1 : i < n) : ∃ ad , A = some ad ∧ w.cell? (ad.add (i.toNat * 14)) = some (.int .i8 (rd_T49 xs i).f0) ∧ w.cell? ⟨(ad.add (i.toNat * 14)).block, (ad.add (i.toNat * 14)).off + 1, none⟩ = some (.int .i8 (rd_T49 xs i).f1) ∧ w.cell? ⟨(ad.add (i.toNat * 14)).block, (ad.add (i.toNat * 14)).off + 2, none⟩ = some (.int .i8 (rd_T49 xs i).f2) ∧ w.cell? ⟨(ad.add (i.toNat * 14)).block, (ad.add (i.toNat * 14)).off + 3, none⟩ = some (.int .i8 (rd_T49 xs i).f3) ∧ w.cell? ⟨(ad.add (i.toNat * 14)).block, (ad.add (i.toNat * 14)).off + 4, none⟩ = some (.int .i8 (rd_T49 xs i).f4) ∧ w.cell? ⟨(ad.add (i.toNat * 14)).block, (ad.add (i.toNat * 14)).off + 5, none⟩ = some (.int .i8 (rd_T49 xs i).f5) ∧ w.cell? ⟨(ad.add (i.toNat * 14)).block, (ad.add (i.toNat * 14)).off + 6, none⟩ = some (.int .i8 (rd_T49 xs i).f6) ∧ w.cell? ⟨(ad.add (i.toNat * 14)).block, (ad.add (i.toNat * 14)).off + 7, none⟩ = some (.int .i8 (rd_T49 xs i).f7) ∧ w.cell? ⟨(ad.add (i.toNat * 14)).block, (ad.add (i.toNat * 14)).off + 8, none⟩ = some (.int .i8 (rd_T49 xs i).f8) ∧ w.cell? ⟨(ad.add (i.toNat * 14)).block, (ad.add (i.toNat * 14)).off + 9, none⟩ = some (.int .i8 (rd_T49 xs i).f9) ∧ w.cell? ⟨(ad.add (i.toNat * 14)).block, (ad.add (i.toNat * 14)).off + 10, none⟩ = some (.int .i8 (rd_T49 xs i).f10) ∧ w.cell? ⟨(ad.add (i.toNat * 14)).block, (ad.add (i.toNat * 14)).off + 11, none⟩ = some (.int .i8 (rd_T49 xs i).f11) ∧ w.cell? ⟨(ad.add (i.toNat * 14)).block, (ad.add (i.toNat * 14)).off + 12, none⟩ = some (.int .i8 (rd_T49 xs i).f12) ∧ w.cell? ⟨(ad.add (i.toNat * 14)).block, (ad.add (i.toNat * 14)).off + 13, none⟩ = some (.int .i8 (rd_T49 xs i).f13) := by
 obtain ⟨ad, c, e, _, hK, hc0⟩ := Kd.C_get h z49 i h0 h1
 have hc : ∀ j u, c[j]? = some u → w.cell? (ad.add (i.toNat * 14 + j)) = some u := hc0
 obtain rfl := k49_open hK
 exact ⟨ad, e, hc 0 _ rfl, by rw [← zs _ _ 1 (by omega)]; exact hc 1 _ rfl, by rw [← zs _ _ 2 (by omega)]; exact hc 2 _ rfl, by rw [← zs _ _ 3 (by omega)]; exact hc 3 _ rfl, by rw [← zs _ _ 4 (by omega)]; exact hc 4 _ rfl, by rw [← zs _ _ 5 (by omega)]; exact hc 5 _ rfl, by rw [← zs _ _ 6 (by omega)]; exact hc 6 _ rfl, by rw [← zs _ _ 7 (by omega)]; exact hc 7 _ rfl, by rw [← zs _ _ 8 (by omega)]; exact hc 8 _ rfl, by rw [← zs _ _ 9 (by omega)]; exact hc 9 _ rfl, by rw [← zs _ _ 10 (by omega)]; exact hc 10 _ rfl, by rw [← zs _ _ 11 (by omega)]; exact hc 11 _ rfl, by rw [← zs _ _ 12 (by omega)]; exact hc 12 _ rfl, by rw [← zs _ _ 13 (by omega)]; exact hc 13 _ rfl⟩

/-! #### struct type 52 -/
structure S52 where
 f0 : Int
 f1 : Int
 f2 : Int
def z52 : S52 := ⟨(0 : Int), (0 : Int), (0 : Int)⟩
def k52 : Kd S52 := Kd.iso (Kd.pair (Kd.int .i16) (Kd.pair (Kd.int .i16) (Kd.int .i16))) (fun x : S52 => (x.f0, x.f1, x.f2))
theorem k52_open {w : World} {x : S52} {cs : List Value} (h : k52.K w x cs) : cs = [.int .i16 x.f0, .int .i16 x.f1, .int .i16 x.f2] := by
 obtain ⟨_, _, rfl, rfl, ⟨_, _, rfl, rfl, rfl⟩⟩ := h
 exact rfl
theorem k52_openM {w : World} {base : Nat} {ok : Nat → Prop} {x : S52} {cs : List Value} (h : k52.M w base ok x cs) : cs = [.int .i16 x.f0, .int .i16 x.f1, .int .i16 x.f2] := by
 obtain ⟨_, _, rfl, rfl, ⟨_, _, rfl, rfl, rfl⟩⟩ := h
 exact rfl
theorem k52_mk (w : World) (x : S52)  : k52.K w x [.int .i16 x.f0, .int .i16 x.f1, .int .i16 x.f2] := ⟨[.int .i16 x.f0], [.int .i16 x.f1, .int .i16 x.f2], rfl, rfl, ⟨[.int .i16 x.f1], [.int .i16 x.f2], rfl, rfl, rfl⟩⟩
theorem k52_mkM (w : World) (base : Nat) (ok : Nat → Prop) (x : S52)  : k52.M w base ok x [.int .i16 x.f0, .int .i16 x.f1, .int .i16 x.f2] := ⟨[.int .i16 x.f0], [.int .i16 x.f1, .int .i16 x.f2], rfl, rfl, ⟨[.int .i16 x.f1], [.int .i16 x.f2], rfl, rfl, rfl⟩⟩
def rd_T52 (xs : List S52) (i : Int) : S52 := xs.getD i.toNat z52
theorem at_T52 {w : World} {A : Option Addr} {n : Nat} {xs : List S52} (h : Kd.C k52 w A n xs) (i : Int) (h0 : 0 ≤ i) (h1 : i < n) : ∃ ad , A = some ad ∧ w.cell? (ad.add (i.toNat * 3)) = some (.int .i16 (rd_T52 xs i).f0) ∧ w.cell? ⟨(ad.add (i.toNat * 3)).block, (ad.add (i.toNat * 3)).off + 1, none⟩ = some (.int .i16 (rd_T52 xs i).f1) ∧ w.cell? ⟨(ad.add (i.toNat * 3)).block, (ad.add (i.toNat * 3)).off + 2, none⟩ = some (.int .i16 (rd_T52 xs i).f2) := by
 obtain ⟨ad, c, e, _, hK, hc0⟩ := Kd.C_get h z52 i h0 h1
 have hc : ∀ j u, c[j]? = some u → w.cell? (ad.add (i.toNat * 3 + j)) = some u := hc0
 obtain rfl := k52_open hK
 exact ⟨ad, e, hc 0 _ rfl, by rw [← zs _ _ 1 (by omega)]; exact hc 1 _ rfl, by rw [← zs _ _ 2 (by omega)]; exact hc 2 _ rfl⟩

/-! #### struct type 56 -/
structure S56 where
 f0 : Int
 f1 : Bool
def z56 : S56 := ⟨(0 : Int), false⟩
def k56 : Kd S56 := Kd.iso (Kd.pair (Kd.int .i8) Kd.bool) (fun x : S56 => (x.f0, x.f1))
theorem k56_open {w : World} {x : S56} {cs : List Value} (h : k56.K w x cs) : cs = [.int .i8 x.f0, .bool x.f1] := by
 obtain ⟨_, _, rfl, rfl, rfl⟩ := h
 exact rfl
theorem k56_openM {w : World} {base : Nat} {ok : Nat → Prop} {x : S56} {cs : List Value} (h : k56.M w base ok x cs) : cs = [.int .i8 x.f0, .bool x.f1] := by
 obtain ⟨_, _, rfl, rfl, rfl⟩ := h
 exact rfl
theorem k56_mk (w : World) (x : S56)  : k56.K w x [.int .i8 x.f0, .bool x.f1] := ⟨[.int .i8 x.f0], [.bool x.f1], rfl, rfl, rfl⟩
theorem k56_mkM (w : World) (base : Nat) (ok : Nat → Prop) (x : S56)  : k56.M w base ok x [.int .i8 x.f0, .bool x.f1] := ⟨[.int .i8 x.f0], [.bool x.f1], rfl, rfl, rfl⟩
def rd_T56 (xs : List S56) (i : Int) : S56 := xs.getD i.toNat z56
theorem at_T56 {w : World} {A : Option Addr} {n : Nat} {xs : List S56} (h : Kd.C k56 w A n xs) (i : Int) (h0 : 0 ≤ i) (h1 : i < n) : ∃ ad , A = some ad ∧ w.cell? (ad.add (i.toNat * 2)) = some (.int .i8 (rd_T56 xs i).f0) ∧ w.cell? ⟨(ad.add (i.toNat * 2)).block, (ad.add (i.toNat * 2)).off + 1, none⟩ = some (.bool (rd_T56 xs i).f1) := by
 obtain ⟨ad, c, e, _, hK, hc0⟩ := Kd.C_get h z56 i h0 h1
 have hc : ∀ j u, c[j]? = some u → w.cell? (ad.add (i.toNat * 2 + j)) = some u := hc0
 obtain rfl := k56_open hK
 exact ⟨ad, e, hc 0 _ rfl, by rw [← zs _ _ 1 (by omega)]; exact hc 1 _ rfl⟩

/-! #### struct type 58 -/
structure S58 where
 f0 : S49
 f1 : S52
 f2 : S56
 f3 : Bool
def z58 : S58 := ⟨z49, z52, z56, false⟩
def k58 : Kd S58 := Kd.iso (Kd.pair k49 (Kd.pair k52 (Kd.pair k56 Kd.bool))) (fun x : S58 => (x.f0, x.f1, x.f2, x.f3))
theorem k58_open {w : World} {x : S58} {cs : List Value} (h : k58.K w x cs) : cs = [.int .i8 x.f0.f0, .int .i8 x.f0.f1, .int .i8 x.f0.f2, .int .i8 x.f0.f3, .int .i8 x.f0.f4, .int .i8 x.f0.f5, .int .i8 x.f0.f6, .int .i8 x.f0.f7, .int .i8 x.f0.f8, .int .i8 x.f0.f9, .int .i8 x.f0.f10, .int .i8 x.f0.f11, .int .i8 x.f0.f12, .int .i8 x.f0.f13, .int .i16 x.f1.f0, .int .i16 x.f1.f1, .int .i16 x.f1.f2, .int .i8 x.f2.f0, .bool x.f2.f1, .bool x.f3] := by
 obtain ⟨_, _, rfl, s0, ⟨_, _, rfl, s14, ⟨_, _, rfl, s17, rfl⟩⟩⟩ := h
 obtain rfl := k49_open s0
 obtain rfl := k52_open s14
 obtain rfl := k56_open s17
 exact rfl
theorem k58_openM {w : World} {base : Nat} {ok : Nat → Prop} {x : S58} {cs : List Value} (h : k58.M w base ok x cs) : cs = [.int .i8 x.f0.f0, .int .i8 x.f0.f1, .int .i8 x.f0.f2, .int .i8 x.f0.f3, .int .i8 x.f0.f4, .int .i8 x.f0.f5, .int .i8 x.f0.f6, .int .i8 x.f0.f7, .int .i8 x.f0.f8, .int .i8 x.f0.f9, .int .i8 x.f0.f10, .int .i8 x.f0.f11, .int .i8 x.f0.f12, .int .i8 x.f0.f13, .int .i16 x.f1.f0, .int .i16 x.f1.f1, .int .i16 x.f1.f2, .int .i8 x.f2.f0, .bool x.f2.f1, .bool x.f3] := by
 obtain ⟨_, _, rfl, s0, ⟨_, _, rfl, s14, ⟨_, _, rfl, s17, rfl⟩⟩⟩ := h
 obtain rfl := k49_openM s0
 obtain rfl := k52_openM s14
 obtain rfl := k56_openM s17
 exact rfl
theorem k58_mk (w : World) (x : S58)  : k58.K w x [.int .i8 x.f0.f0, .int .i8 x.f0.f1, .int .i8 x.f0.f2, .int .i8 x.f0.f3, .int .i8 x.f0.f4, .int .i8 x.f0.f5, .int .i8 x.f0.f6, .int .i8 x.f0.f7, .int .i8 x.f0.f8, .int .i8 x.f0.f9, .int .i8 x.f0.f10, .int .i8 x.f0.f11, .int .i8 x.f0.f12, .int .i8 x.f0.f13, .int .i16 x.f1.f0, .int .i16 x.f1.f1, .int .i16 x.f1.f2, .int .i8 x.f2.f0, .bool x.f2.f1, .bool x.f3] := ⟨[.int .i8 x.f0.f0, .int .i8 x.f0.f1, .int .i8 x.f0.f2, .int .i8 x.f0.f3, .int .i8 x.f0.f4, .int .i8 x.f0.f5, .int .i8 x.f0.f6, .int .i8 x.f0.f7, .int .i8 x.f0.f8, .int .i8 x.f0.f9, .int .i8 x.f0.f10, .int .i8 x.f0.f11, .int .i8 x.f0.f12, .int .i8 x.f0.f13], [.int .i16 x.f1.f0, .int .i16 x.f1.f1, .int .i16 x.f1.f2, .int .i8 x.f2.f0, .bool x.f2.f1, .bool x.f3], rfl, (k49_mk w x.f0 ), ⟨[.int .i16 x.f1.f0, .int .i16 x.f1.f1, .int .i16 x.f1.f2], [.int .i8 x.f2.f0, .bool x.f2.f1, .bool x.f3], rfl, (k52_mk w x.f1 ), ⟨[.int .i8 x.f2.f0, .bool x.f2.f1], [.bool x.f3], rfl, (k56_mk w x.f2 ), rfl⟩⟩⟩
theorem k58_mkM (w : World) (base : Nat) (ok : Nat → Prop) (x : S58)  : k58.M w base ok x [.int .i8 x.f0.f0, .int .i8 x.f0.f1, .int .i8 x.f0.f2, .int .i8 x.f0.f3, .int .i8 x.f0.f4, .int .i8 x.f0.f5, .int .i8 x.f0.f6, .int .i8 x.f0.f7, .int .i8 x.f0.f8, .int .i8 x.f0.f9, .int .i8 x.f0.f10, .int .i8 x.f0.f11, .int .i8 x.f0.f12, .int .i8 x.f0.f13, .int .i16 x.f1.f0, .int .i16 x.f1.f1, .int .i16 x.f1.f2, .int .i8 x.f2.f0, .bool x.f2.f1, .bool x.f3] := ⟨[.int .i8 x.f0.f0, .int .i8 x.f0.f1, .int .i8 x.f0.f2, .int .i8 x.f0.f3, .int .i8 x.f0.f4, .int .i8 x.f0.f5, .int .i8 x.f0.f6, .int .i8 x.f0.f7, .int .i8 x.f0.f8, .int .i8 x.f0.f9, .int .i8 x.f0.f10, .int .i8 x.f0.f11, .int .i8 x.f0.f12, .int .i8 x.f0.f13], [.int .i16 x.f1.f0, .int .i16 x.f1.f1, .int .i16 x.f1.f2, .int .i8 x.f2.f0, .bool x.f2.f1, .bool x.f3], rfl, (k49_mkM w base ok x.f0 ), ⟨[.int .i16 x.f1.f0, .int .i16 x.f1.f1, .int .i16 x.f1.f2], [.int .i8 x.f2.f0, .bool x.f2.f1, .bool x.f3], rfl, (k52_mkM w base ok x.f1 ), ⟨[.int .i8 x.f2.f0, .bool x.f2.f1], [.bool x.f3], rfl, (k56_mkM w base ok x.f2 ), rfl⟩⟩⟩
def rd_T58 (xs : List S58) (i : Int) : S58 := xs.getD i.toNat z58
theorem at_T58 {w : World} {A : Option Addr} {n : Nat} {xs : List S58} (h : Kd.C k58 w A n xs) (i : Int) (h0 : 0 ≤ i) (h1 : i < n) : ∃ ad , A = some ad ∧ w.cell? (ad.add (i.toNat * 20)) = some (.int .i8 (rd_T58 xs i).f0.f0) ∧ w.cell? ⟨(ad.add (i.toNat * 20)).block, (ad.add (i.toNat * 20)).off + 1, none⟩ = some (.int .i8 (rd_T58 xs i).f0.f1) ∧ w.cell? ⟨(ad.add (i.toNat * 20)).block, (ad.add (i.toNat * 20)).off + 2, none⟩ = some (.int .i8 (rd_T58 xs i).f0.f2) ∧ w.cell? ⟨(ad.add (i.toNat * 20)).block, (ad.add (i.toNat * 20)).off + 3, none⟩ = some (.int .i8 (rd_T58 xs i).f0.f3) ∧ w.cell? ⟨(ad.add (i.toNat * 20)).block, (ad.add (i.toNat * 20)).off + 4, none⟩ = some (.int .i8 (rd_T58 xs i).f0.f4) ∧ w.cell? ⟨(ad.add (i.toNat * 20)).block, (ad.add (i.toNat * 20)).off + 5, none⟩ = some (.int .i8 (rd_T58 xs i).f0.f5) ∧ w.cell? ⟨(ad.add (i.toNat * 20)).block, (ad.add (i.toNat * 20)).off + 6, none⟩ = some (.int .i8 (rd_T58 xs i).f0.f6) ∧ w.cell? ⟨(ad.add (i.toNat * 20)).block, (ad.add (i.toNat * 20)).off + 7, none⟩ = some (.int .i8 (rd_T58 xs i).f0.f7) ∧ w.cell? ⟨(ad.add (i.toNat * 20)).block, (ad.add (i.toNat * 20)).off + 8, none⟩ = some (.int .i8 (rd_T58 xs i).f0.f8) ∧ w.cell? ⟨(ad.add (i.toNat * 20)).block, (ad.add (i.toNat * 20)).off + 9, none⟩ = some (.int .i8 (rd_T58 xs i).f0.f9) ∧ w.cell? ⟨(ad.add (i.toNat * 20)).block, (ad.add (i.toNat * 20)).off + 10, none⟩ = some (.int .i8 (rd_T58 xs i).f0.f10) ∧ w.cell? ⟨(ad.add (i.toNat * 20)).block, (ad.add (i.toNat * 20)).off + 11, none⟩ = some (.int .i8 (rd_T58 xs i).f0.f11) ∧ w.cell? ⟨(ad.add (i.toNat * 20)).block, (ad.add (i.toNat * 20)).off + 12, none⟩ = some (.int .i8 (rd_T58 xs i).f0.f12) ∧ w.cell? ⟨(ad.add (i.toNat * 20)).block, (ad.add (i.toNat * 20)).off + 13, none⟩ = some (.int .i8 (rd_T58 xs i).f0.f13) ∧ w.cell? ⟨(ad.add (i.toNat * 20)).block, (ad.add (i.toNat * 20)).off + 14, none⟩ = some (.int .i16 (rd_T58 xs i).f1.f0) ∧ w.cell? ⟨(ad.add (i.toNat * 20)).block, (ad.add (i.toNat * 20)).off + 15, none⟩ = some (.int .i16 (rd_T58 xs i).f1.f1) ∧ w.cell? ⟨(ad.add (i.toNat * 20)).block, (ad.add (i.toNat * 20)).off + 16, none⟩ = some (.int .i16 (rd_T58 xs i).f1.f2) ∧ w.cell? ⟨(ad.add (i.toNat * 20)).block, (ad.add (i.toNat * 20)).off + 17, none⟩ = some (.int .i8 (rd_T58 xs i).f2.f0) ∧ w.cell? ⟨(ad.add (i.toNat * 20)).block, (ad.add (i.toNat * 20)).off + 18, none⟩ = some (.bool (rd_T58 xs i).f2.f1) ∧ w.cell? ⟨(ad.add (i.toNat * 20)).block, (ad.add (i.toNat * 20)).off + 19, none⟩ = some (.bool (rd_T58 xs i).f3) := by
 obtain ⟨ad, c, e, _, hK, hc0⟩ := Kd.C_get h z58 i h0 h1
 have hc : ∀ j u, c[j]? = some u → w.cell? (ad.add (i.toNat * 20 + j)) = some u := hc0
 obtain rfl := k58_open hK
 exact ⟨ad, e, hc 0 _ rfl, by rw [← zs _ _ 1 (by omega)]; exact hc 1 _ rfl, by rw [← zs _ _ 2 (by omega)]; exact hc 2 _ rfl, by rw [← zs _ _ 3 (by omega)]; exact hc 3 _ rfl, by rw [← zs _ _ 4 (by omega)]; exact hc 4 _ rfl, by rw [← zs _ _ 5 (by omega)]; exact hc 5 _ rfl, by rw [← zs _ _ 6 (by omega)]; exact hc 6 _ rfl, by rw [← zs _ _ 7 (by omega)]; exact hc 7 _ rfl, by rw [← zs _ _ 8 (by omega)]; exact hc 8 _ rfl, by rw [← zs _ _ 9 (by omega)]; exact hc 9 _ rfl, by rw [← zs _ _ 10 (by omega)]; exact hc 10 _ rfl, by rw [← zs _ _ 11 (by omega)]; exact hc 11 _ rfl, by rw [← zs _ _ 12 (by omega)]; exact hc 12 _ rfl, by rw [← zs _ _ 13 (by omega)]; exact hc 13 _ rfl, by rw [← zs _ _ 14 (by omega)]; exact hc 14 _ rfl, by rw [← zs _ _ 15 (by omega)]; exact hc 15 _ rfl, by rw [← zs _ _ 16 (by omega)]; exact hc 16 _ rfl, by rw [← zs _ _ 17 (by omega)]; exact hc 17 _ rfl, by rw [← zs _ _ 18 (by omega)]; exact hc 18 _ rfl, by rw [← zs _ _ 19 (by omega)]; exact hc 19 _ rfl⟩

/-! #### struct type 50 -/
structure S50 where
 f0 : Int
 f1 : Int
 f2 : Int
 f3 : Int
 f4 : Int
 f5 : Int
 f6 : Int
 f7 : Int
 f8 : Int
 f9 : Int
 f10 : Int
 f11 : Int
 f12 : Int
 f13 : Int
def z50 : S50 := ⟨(0 : Int), (0 : Int), (0 : Int), (0 : Int), (0 : Int), (0 : Int), (0 : Int), (0 : Int), (0 : Int), (0 : Int), (0 : Int), (0 : Int), (0 : Int), (0 : Int)⟩
def k50 : Kd S50 := Kd.iso (Kd.pair (Kd.int .i8) (Kd.pair (Kd.int .i8) (Kd.pair (Kd.int .i8) (Kd.pair (Kd.int .i8) (Kd.pair (Kd.int .i8) (Kd.pair (Kd.int .i8) (Kd.pair (Kd.int .i8) (Kd.pair (Kd.int .i8) (Kd.pair (Kd.int .i8) (Kd.pair (Kd.int .i8) (Kd.pair (Kd.int .i8) (Kd.pair (Kd.int .i8) (Kd.pair (Kd.int .i8) (Kd.int .i8)))))))))))))) (fun x : S50 => (x.f0, x.f1, x.f2, x.f3, x.f4, x.f5, x.f6, x.f7, x.f8, x.f9, x.f10, x.f11, x.f12, x.f13))
theorem k50_open {w : World} {x : S50} {cs : List Value} (h : k50.K w x cs) : cs = [.int .i8 x.f0, .int .i8 x.f1, .int .i8 x.f2, .int .i8 x.f3, .int .i8 x.f4, .int .i8 x.f5, .int .i8 x.f6, .int .i8 x.f7, .int .i8 x.f8, .int .i8 x.f9, .int .i8 x.f10, .int .i8 x.f11, .int .i8 x.f12, .int .i8 x.f13] := by
 obtain ⟨_, _, rfl, rfl, ⟨_, _, rfl, rfl, ⟨_, _, rfl, rfl, ⟨_, _, rfl, rfl, ⟨_, _, rfl, rfl, ⟨_, _, rfl, rfl, ⟨_, _, rfl, rfl, ⟨_, _, rfl, rfl, ⟨_, _, rfl, rfl, ⟨_, _, rfl, rfl, ⟨_, _, rfl, rfl, ⟨_, _, rfl, rfl, ⟨_, _, rfl, rfl, rfl⟩⟩⟩⟩⟩⟩⟩⟩⟩⟩⟩⟩⟩ := h
 exact rfl
theorem k50_openM {w : World} {base : Nat} {ok : Nat → Prop} {x : S50} {cs : List Value} (h : k50.M w base ok x cs) : cs = [.int .i8 x.f0, .int .i8 x.f1, .int .i8 x.f2, .int .i8 x.f3, .int .i8 x.f4, .int .i8 x.f5, .int .i8 x.f6, .int .i8 x.f7, .int .i8 x.f8, .int .i8 x.f9, .int .i8 x.f10, .int .i8 x.f11, .int .i8 x.f12, .int .i8 x.f13] := by
 obtain ⟨_, _, rfl, rfl, ⟨_, _, rfl, rfl, ⟨_, _, rfl, rfl, ⟨_, _, rfl, rfl, ⟨_, _, rfl, rfl, ⟨_, _, rfl, rfl, ⟨_, _, rfl, rfl, ⟨_, _, rfl, rfl, ⟨_, _, rfl, rfl, ⟨_, _, rfl, rfl, ⟨_, _, rfl, rfl, ⟨_, _, rfl, rfl, ⟨_, _, rfl, rfl, rfl⟩⟩⟩⟩⟩⟩⟩⟩⟩⟩⟩⟩⟩ := h
 exact rfl
theorem k50_mk (w : World) (x : S50)  : k50.K w x [.int .i8 x.f0, .int .i8 x.f1, .int .i8 x.f2, .int .i8 x.f3, .int .i8 x.f4, .int .i8 x.f5, .int .i8 x.f6, .int .i8 x.f7, .int .i8 x.f8, .int .i8 x.f9, .int .i8 x.f10, .int .i8 x.f11, .int .i8 x.f12, .int .i8 x.f13] := ⟨[.int .i8 x.f0], [.int .i8 x.f1, .int .i8 x.f2, .int .i8 x.f3, .int .i8 x.f4, .int .i8 x.f5, .int .i8 x.f6, .int .i8 x.f7, .int .i8 x.f8, .int .i8 x.f9, .int .i8 x.f10, .int .i8 x.f11, .int .i8 x.f12, .int .i8 x.f13], rfl, rfl, ⟨[.int .i8 x.f1], [.int .i8 x.f2, .int .i8 x.f3, .int .i8 x.f4, .int .i8 x.f5, .int .i8 x.f6, .int .i8 x.f7, .int .i8 x.f8, .int .i8 x.f9, .int .i8 x.f10, .int .i8 x.f11, .int .i8 x.f12, .int .i8 x.f13], rfl, rfl, ⟨[.int .i8 x.f2], [.int .i8 x.f3, .int .i8 x.f4, .int .i8 x.f5, .int .i8 x.f6, .int .i8 x.f7, .int .i8 x.f8, .int .i8 x.f9, .int .i8 x.f10, .int .i8 x.f11, .int .i8 x.f12, .int .i8 x.f13], rfl, rfl, ⟨[.int .i8 x.f3], [.int .i8 x.f4, .int .i8 x.f5, .int .i8 x.f6, .int .i8 x.f7, .int .i8 x.f8, .int .i8 x.f9, .int .i8 x.f10, .int .i8 x.f11, .int .i8 x.f12, .int .i8 x.f13], rfl, rfl, ⟨[.int .i8 x.f4], [.int .i8 x.f5, .int .i8 x.f6, .int .i8 x.f7, .int .i8 x.f8, .int .i8 x.f9, .int .i8 x.f10, .int .i8 x.f11, .int .i8 x.f12, .int .i8 x.f13], rfl, rfl, ⟨[.int .i8 x.f5], [.int .i8 x.f6, .int .i8 x.f7, .int .i8 x.f8, .int .i8 x.f9, .int .i8 x.f10, .int .i8 x.f11, .int .i8 x.f12, .int .i8 x.f13], rfl, rfl, ⟨[.int .i8 x.f6], [.int .i8 x.f7, .int .i8 x.f8, .int .i8 x.f9, .int .i8 x.f10, .int .i8 x.f11, .int .i8 x.f12, .int .i8 x.f13], rfl, rfl, ⟨[.int .i8 x.f7], [.int .i8 x.f8, .int .i8 x.f9, .int .i8 x.f10, .int .i8 x.f11, .int .i8 x.f12, .int .i8 x.f13], rfl, rfl, ⟨[.int .i8 x.f8], [.int .i8 x.f9, .int .i8 x.f10, .int .i8 x.f11, .int .i8 x.f12, .int .i8 x.f13], rfl, rfl, ⟨[.int .i8 x.f9], [.int .i8 x.f10, .int .i8 x.f11, .int .i8 x.f12, .int .i8 x.f13], rfl, rfl, ⟨[.int .i8 x.f10], [.int .i8 x.f11, .int .i8 x.f12, .int .i8 x.f13], rfl, rfl, ⟨[.int .i8 x.f11], [.int .i8 x.f12, .int .i8 x.f13], rfl, rfl, ⟨[.int .i8 x.f12], [.int .i8 x.f13], rfl, rfl, rfl⟩⟩⟩⟩⟩⟩⟩⟩⟩⟩⟩⟩⟩
theorem k50_mkM (w : World) (base : Nat) (ok : Nat → Prop) (x : S50)  : k50.M w base ok x [.int .i8 x.f0, .int .i8 x.f1, .int .i8 x.f2, .int .i8 x.f3, .int .i8 x.f4, .int .i8 x.f5, .int .i8 x.f6, .int .i8 x.f7, .int .i8 x.f8, .int .i8 x.f9, .int .i8 x.f10, .int .i8 x.f11, .int .i8 x.f12, .int .i8 x.f13] := ⟨[.int .i8 x.f0], [.int .i8 x.f1, .int .i8 x.f2, .int .i8 x.f3, .int .i8 x.f4, .int .i8 x.f5, .int .i8 x.f6, .int .i8 x.f7, .int .i8 x.f8, .int .i8 x.f9, .int .i8 x.f10, .int .i8 x.f11, .int .i8 x.f12, .int .i8 x.f13], rfl, rfl, ⟨[.int .i8 x.f1], [.int .i8 x.f2, .int .i8 x.f3, .int .i8 x.f4, .int .i8 x.f5, .int .i8 x.f6, .int .i8 x.f7, .int .i8 x.f8, .int .i8 x.f9, .int .i8 x.f10, .int .i8 x.f11, .int .i8 x.f12, .int .i8 x.f13], rfl, rfl, ⟨[.int .i8 x.f2], [.int .i8 x.f3, .int .i8 x.f4, .int .i8 x.f5, .int .i8 x.f6, .int .i8 x.f7, .int .i8 x.f8, .int .i8 x.f9, .int .i8 x.f10, .int .i8 x.f11, .int .i8 x.f12, .int .i8 x.f13], rfl, rfl, ⟨[.int .i8 x.f3], [.int .i8 x.f4, .int .i8 x.f5, .int .i8 x.f6, .int .i8 x.f7, .int .i8 x.f8, .int .i8 x.f9, .int .i8 x.f10, .int .i8 x.f11, .int .i8 x.f12, .int .i8 x.f13], rfl, rfl, ⟨[.int .i8 x.f4], [.int .i8 x.f5, .int .i8 x.f6, .int .i8 x.f7, .int .i8 x.f8, .int .i8 x.f9, .int .i8 x.f10, .int .i8 x.f11, .int .i8 x.f12, .int .i8 x.f13], rfl, rfl, ⟨[.int .i8 x.f5], [.int .i8 x.f6, .int .i8 x.f7, .int .i8 x.f8, .int .i8 x.f9, .int .i8 x.f10, .int .i8 x.f11, .int .i8 x.f12, .int .i8 x.f13], rfl, rfl, ⟨[.int .i8 x.f6], [.int .i8 x.f7, .int .i8 x.f8, .int .i8 x.f9, .int .i8 x.f10, .int .i8 x.f11, .int .i8 x.f12, .int .i8 x.f13], rfl, rfl, ⟨[.int .i8 x.f7], [.int .i8 x.f8, .int .i8 x.f9, .int .i8 x.f10, .int .i8 x.f11, .int .i8 x.f12, .int .i8 x.f13], rfl, rfl, ⟨[.int .i8 x.f8], [.int .i8 x.f9, .int .i8 x.f10, .int .i8 x.f11, .int .i8 x.f12, .int .i8 x.f13], rfl, rfl, ⟨[.int .i8 x.f9], [.int .i8 x.f10, .int .i8 x.f11, .int .i8 x.f12, .int .i8 x.f13], rfl, rfl, ⟨[.int .i8 x.f10], [.int .i8 x.f11, .int .i8 x.f12, .int .i8 x.f13], rfl, rfl, ⟨[.int .i8 x.f11], [.int .i8 x.f12, .int .i8 x.f13], rfl, rfl, ⟨[.int .i8 x.f12], [.int .i8 x.f13], rfl, rfl, rfl⟩⟩⟩⟩⟩⟩⟩⟩⟩⟩⟩⟩⟩
def rd_T50 (xs : List S50) (i : Int) : S50 := xs.getD i.toNat z50
theorem at_T50 {w : World} {A : Option Addr} {n : Nat} {xs : List S50} (h : Kd.C k50 w A n xs) (i : Int) (h0 : 0 ≤ i) (h1 : i < n) : ∃ ad , A = some ad ∧ w.cell? (ad.add (i.toNat * 14)) = some (.int .i8 (rd_T50 xs i).f0) ∧ w.cell? ⟨(ad.add (i.toNat * 14)).block, (ad.add (i.toNat * 14)).off + 1, none⟩ = some (.int .i8 (rd_T50 xs i).f1) ∧ w.cell? ⟨(ad.add (i.toNat * 14)).block, (ad.add (i.toNat * 14)).off + 2, none⟩ = some (.int .i8 (rd_T50 xs i).f2) ∧ w.cell? ⟨(ad.add (i.toNat * 14)).block, (ad.add (i.toNat * 14)).off + 3, none⟩ = some (.int .i8 (rd_T50 xs i).f3) ∧ w.cell? ⟨(ad.add (i.toNat * 14)).block, (ad.add (i.toNat * 14)).off + 4, none⟩ = some (.int .i8 (rd_T50 xs i).f4) ∧ w.cell? ⟨(ad.add (i.toNat * 14)).block, (ad.add (i.toNat * 14)).off + 5, none⟩ = some (.int .i8 (rd_T50 xs i).f5) ∧ w.cell? ⟨(ad.add (i.toNat * 14)).block, (ad.add (i.toNat * 14)).off + 6, none⟩ = some (.int .i8 (rd_T50 xs i).f6) ∧ w.cell? ⟨(ad.add (i.toNat * 14)).block, (ad.add (i.toNat * 14)).off + 7, none⟩ = some (.int .i8 (rd_T50 xs i).f7) ∧ w.cell? ⟨(ad.add (i.toNat * 14)).block, (ad.add (i.toNat * 14)).off + 8, none⟩ = some (.int .i8 (rd_T50 xs i).f8) ∧ w.cell? ⟨(ad.add (i.toNat * 14)).block, (ad.add (i.toNat * 14)).off + 9, none⟩ = some (.int .i8 (rd_T50 xs i).f9) ∧ w.cell? ⟨(ad.add (i.toNat * 14)).block, (ad.add (i.toNat * 14)).off + 10, none⟩ = some (.int .i8 (rd_T50 xs i).f10) ∧ w.cell? ⟨(ad.add (i.toNat * 14)).block, (ad.add (i.toNat * 14)).off + 11, none⟩ = some (.int .i8 (rd_T50 xs i).f11) ∧ w.cell? ⟨(ad.add (i.toNat * 14)).block, (ad.add (i.toNat * 14)).off + 12, none⟩ = some (.int .i8 (rd_T50 xs i).f12) ∧ w.cell? ⟨(ad.add (i.toNat * 14)).block, (ad.add (i.toNat * 14)).off + 13, none⟩ = some (.int .i8 (rd_T50 xs i).f13) := by
 obtain ⟨ad, c, e, _, hK, hc0⟩ := Kd.C_get h z50 i h0 h1
 have hc : ∀ j u, c[j]? = some u → w.cell? (ad.add (i.toNat * 14 + j)) = some u := hc0
 obtain rfl := k50_open hK
 exact ⟨ad, e, hc 0 _ rfl, by rw [← zs _ _ 1 (by omega)]; exact hc 1 _ rfl, by rw [← zs _ _ 2 (by omega)]; exact hc 2 _ rfl, by rw [← zs _ _ 3 (by omega)]; exact hc 3 _ rfl, by rw [← zs _ _ 4 (by omega)]; exact hc 4 _ rfl, by rw [← zs _ _ 5 (by omega)]; exact hc 5 _ rfl, by rw [← zs _ _ 6 (by omega)]; exact hc 6 _ rfl, by rw [← zs _ _ 7 (by omega)]; exact hc 7 _ rfl, by rw [← zs _ _ 8 (by omega)]; exact hc 8 _ rfl, by rw [← zs _ _ 9 (by omega)]; exact hc 9 _ rfl, by rw [← zs _ _ 10 (by omega)]; exact hc 10 _ rfl, by rw [← zs _ _ 11 (by omega)]; exact hc 11 _ rfl, by rw [← zs _ _ 12 (by omega)]; exact hc 12 _ rfl, by rw [← zs _ _ 13 (by omega)]; exact hc 13 _ rfl⟩

/-! #### struct type 46 -/
structure S46 where
 f0 : Int
 f1 : Bool
def z46 : S46 := ⟨(0 : Int), false⟩
def k46 : Kd S46 := Kd.iso (Kd.pair (Kd.int .i8) Kd.bool) (fun x : S46 => (x.f0, x.f1))
theorem k46_open {w : World} {x : S46} {cs : List Value} (h : k46.K w x cs) : cs = [.int .i8 x.f0, .bool x.f1] := by
 obtain ⟨_, _, rfl, rfl, rfl⟩ := h
 exact rfl
theorem k46_openM {w : World} {base : Nat} {ok : Nat → Prop} {x : S46} {cs : List Value} (h : k46.M w base ok x cs) : cs = [.int .i8 x.f0, .bool x.f1] := by
 obtain ⟨_, _, rfl, rfl, rfl⟩ := h
 exact rfl
theorem k46_mk (w : World) (x : S46)  : k46.K w x [.int .i8 x.f0, .bool x.f1] := ⟨[.int .i8 x.f0], [.bool x.f1], rfl, rfl, rfl⟩
theorem k46_mkM (w : World) (base : Nat) (ok : Nat → Prop) (x : S46)  : k46.M w base ok x [.int .i8 x.f0, .bool x.f1] := ⟨[.int .i8 x.f0], [.bool x.f1], rfl, rfl, rfl⟩
def rd_T46 (xs : List S46) (i : Int) : S46 := xs.getD i.toNat z46
theorem at_T46 {w : World} {A : Option Addr} {n : Nat} {xs : List S46} (h : Kd.C k46 w A n xs) (i : Int) (h0 : 0 ≤ i) (h1 : i < n) : ∃ ad , A = some ad ∧ w.cell? (ad.add (i.toNat * 2)) = some (.int .i8 (rd_T46 xs i).f0) ∧ w.cell? ⟨(ad.add (i.toNat * 2)).block, (ad.add (i.toNat * 2)).off + 1, none⟩ = some (.bool (rd_T46 xs i).f1) := by
 obtain ⟨ad, c, e, _, hK, hc0⟩ := Kd.C_get h z46 i h0 h1
 have hc : ∀ j u, c[j]? = some u → w.cell? (ad.add (i.toNat * 2 + j)) = some u := hc0
 obtain rfl := k46_open hK
 exact ⟨ad, e, hc 0 _ rfl, by rw [← zs _ _ 1 (by omega)]; exact hc 1 _ rfl⟩

/-! #### struct type 54 -/
structure S54 where
 f0 : S50
 f1 : S52
 f2 : S46
 f3 : Bool
def z54 : S54 := ⟨z50, z52, z46, false⟩
def k54 : Kd S54 := Kd.iso (Kd.pair k50 (Kd.pair k52 (Kd.pair k46 Kd.bool))) (fun x : S54 => (x.f0, x.f1, x.f2, x.f3))
theorem k54_open {w : World} {x : S54} {cs : List Value} (h : k54.K w x cs) : cs = [.int .i8 x.f0.f0, .int .i8 x.f0.f1, .int .i8 x.f0.f2, .int .i8 x.f0.f3, .int .i8 x.f0.f4, .int .i8 x.f0.f5, .int .i8 x.f0.f6, .int .i8 x.f0.f7, .int .i8 x.f0.f8, .int .i8 x.f0.f9, .int .i8 x.f0.f10, .int .i8 x.f0.f11, .int .i8 x.f0.f12, .int .i8 x.f0.f13, .int .i16 x.f1.f0, .int .i16 x.f1.f1, .int .i16 x.f1.f2, .int .i8 x.f2.f0, .bool x.f2.f1, .bool x.f3] := by
 obtain ⟨_, _, rfl, s0, ⟨_, _, rfl, s14, ⟨_, _, rfl, s17, rfl⟩⟩⟩ := h
 obtain rfl := k50_open s0
 obtain rfl := k52_open s14
 obtain rfl := k46_open s17
 exact rfl
theorem k54_openM {w : World} {base : Nat} {ok : Nat → Prop} {x : S54} {cs : List Value} (h : k54.M w base ok x cs) : cs = [.int .i8 x.f0.f0, .int .i8 x.f0.f1, .int .i8 x.f0.f2, .int .i8 x.f0.f3, .int .i8 x.f0.f4, .int .i8 x.f0.f5, .int .i8 x.f0.f6, .int .i8 x.f0.f7, .int .i8 x.f0.f8, .int .i8 x.f0.f9, .int .i8 x.f0.f10, .int .i8 x.f0.f11, .int .i8 x.f0.f12, .int .i8 x.f0.f13, .int .i16 x.f1.f0, .int .i16 x.f1.f1, .int .i16 x.f1.f2, .int .i8 x.f2.f0, .bool x.f2.f1, .bool x.f3] := by
 obtain ⟨_, _, rfl, s0, ⟨_, _, rfl, s14, ⟨_, _, rfl, s17, rfl⟩⟩⟩ := h
 obtain rfl := k50_openM s0
 obtain rfl := k52_openM s14
 obtain rfl := k46_openM s17
 exact rfl
theorem k54_mk (w : World) (x : S54)  : k54.K w x [.int .i8 x.f0.f0, .int .i8 x.f0.f1, .int .i8 x.f0.f2, .int .i8 x.f0.f3, .int .i8 x.f0.f4, .int .i8 x.f0.f5, .int .i8 x.f0.f6, .int .i8 x.f0.f7, .int .i8 x.f0.f8, .int .i8 x.f0.f9, .int .i8 x.f0.f10, .int .i8 x.f0.f11, .int .i8 x.f0.f12, .int .i8 x.f0.f13, .int .i16 x.f1.f0, .int .i16 x.f1.f1, .int .i16 x.f1.f2, .int .i8 x.f2.f0, .bool x.f2.f1, .bool x.f3] := ⟨[.int .i8 x.f0.f0, .int .i8 x.f0.f1, .int .i8 x.f0.f2, .int .i8 x.f0.f3, .int .i8 x.f0.f4, .int .i8 x.f0.f5, .int .i8 x.f0.f6, .int .i8 x.f0.f7, .int .i8 x.f0.f8, .int .i8 x.f0.f9, .int .i8 x.f0.f10, .int .i8 x.f0.f11, .int .i8 x.f0.f12, .int .i8 x.f0.f13], [.int .i16 x.f1.f0, .int .i16 x.f1.f1, .int .i16 x.f1.f2, .int .i8 x.f2.f0, .bool x.f2.f1, .bool x.f3], rfl, (k50_mk w x.f0 ), ⟨[.int .i16 x.f1.f0, .int .i16 x.f1.f1, .int .i16 x.f1.f2], [.int .i8 x.f2.f0, .bool x.f2.f1, .bool x.f3], rfl, (k52_mk w x.f1 ), ⟨[.int .i8 x.f2.f0, .bool x.f2.f1], [.bool x.f3], rfl, (k46_mk w x.f2 ), rfl⟩⟩⟩
theorem k54_mkM (w : World) (base : Nat) (ok : Nat → Prop) (x : S54)  : k54.M w base ok x [.int .i8 x.f0.f0, .int .i8 x.f0.f1, .int .i8 x.f0.f2, .int .i8 x.f0.f3, .int .i8 x.f0.f4, .int .i8 x.f0.f5, .int .i8 x.f0.f6, .int .i8 x.f0.f7, .int .i8 x.f0.f8, .int .i8 x.f0.f9, .int .i8 x.f0.f10, .int .i8 x.f0.f11, .int .i8 x.f0.f12, .int .i8 x.f0.f13, .int .i16 x.f1.f0, .int .i16 x.f1.f1, .int .i16 x.f1.f2, .int .i8 x.f2.f0, .bool x.f2.f1, .bool x.f3] := ⟨[.int .i8 x.f0.f0, .int .i8 x.f0.f1, .int .i8 x.f0.f2, .int .i8 x.f0.f3, .int .i8 x.f0.f4, .int .i8 x.f0.f5, .int .i8 x.f0.f6, .int .i8 x.f0.f7, .int .i8 x.f0.f8, .int .i8 x.f0.f9, .int .i8 x.f0.f10, .int .i8 x.f0.f11, .int .i8 x.f0.f12, .int .i8 x.f0.f13], [.int .i16 x.f1.f0, .int .i16 x.f1.f1, .int .i16 x.f1.f2, .int .i8 x.f2.f0, .bool x.f2.f1, .bool x.f3], rfl, (k50_mkM w base ok x.f0 ), ⟨[.int .i16 x.f1.f0, .int .i16 x.f1.f1, .int .i16 x.f1.f2], [.int .i8 x.f2.f0, .bool x.f2.f1, .bool x.f3], rfl, (k52_mkM w base ok x.f1 ), ⟨[.int .i8 x.f2.f0, .bool x.f2.f1], [.bool x.f3], rfl, (k46_mkM w base ok x.f2 ), rfl⟩⟩⟩
def rd_T54 (xs : List S54) (i : Int) : S54 := xs.getD i.toNat z54
theorem at_T54 {w : World} {A : Option Addr} {n : Nat} {xs : List S54} (h : Kd.C k54 w A n xs) (i : Int) (h0 : 0 ≤ i) (h1 : i < n) : ∃ ad , A = some ad ∧ w.cell? (ad.add (i.toNat * 20)) = some (.int .i8 (rd_T54 xs i).f0.f0) ∧ w.cell? ⟨(ad.add (i.toNat * 20)).block, (ad.add (i.toNat * 20)).off + 1, none⟩ = some (.int .i8 (rd_T54 xs i).f0.f1) ∧ w.cell? ⟨(ad.add (i.toNat * 20)).block, (ad.add (i.toNat * 20)).off + 2, none⟩ = some (.int .i8 (rd_T54 xs i).f0.f2) ∧ w.cell? ⟨(ad.add (i.toNat * 20)).block, (ad.add (i.toNat * 20)).off + 3, none⟩ = some (.int .i8 (rd_T54 xs i).f0.f3) ∧ w.cell? ⟨(ad.add (i.toNat * 20)).block, (ad.add (i.toNat * 20)).off + 4, none⟩ = some (.int .i8 (rd_T54 xs i).f0.f4) ∧ w.cell? ⟨(ad.add (i.toNat * 20)).block, (ad.add (i.toNat * 20)).off + 5, none⟩ = some (.int .i8 (rd_T54 xs i).f0.f5) ∧ w.cell? ⟨(ad.add (i.toNat * 20)).block, (ad.add (i.toNat * 20)).off + 6, none⟩ = some (.int .i8 (rd_T54 xs i).f0.f6) ∧ w.cell? ⟨(ad.add (i.toNat * 20)).block, (ad.add (i.toNat * 20)).off + 7, none⟩ = some (.int .i8 (rd_T54 xs i).f0.f7) ∧ w.cell? ⟨(ad.add (i.toNat * 20)).block, (ad.add (i.toNat * 20)).off + 8, none⟩ = some (.int .i8 (rd_T54 xs i).f0.f8) ∧ w.cell? ⟨(ad.add (i.toNat * 20)).block, (ad.add (i.toNat * 20)).off + 9, none⟩ = some (.int .i8 (rd_T54 xs i).f0.f9) ∧ w.cell? ⟨(ad.add (i.toNat * 20)).block, (ad.add (i.toNat * 20)).off + 10, none⟩ = some (.int .i8 (rd_T54 xs i).f0.f10) ∧ w.cell? ⟨(ad.add (i.toNat * 20)).block, (ad.add (i.toNat * 20)).off + 11, none⟩ = some (.int .i8 (rd_T54 xs i).f0.f11) ∧ w.cell? ⟨(ad.add (i.toNat * 20)).block, (ad.add (i.toNat * 20)).off + 12, none⟩ = some (.int .i8 (rd_T54 xs i).f0.f12) ∧ w.cell? ⟨(ad.add (i.toNat * 20)).block, (ad.add (i.toNat * 20)).off + 13, none⟩ = some (.int .i8 (rd_T54 xs i).f0.f13) ∧ w.cell? ⟨(ad.add (i.toNat * 20)).block, (ad.add (i.toNat * 20)).off + 14, none⟩ = some (.int .i16 (rd_T54 xs i).f1.f0) ∧ w.cell? ⟨(ad.add (i.toNat * 20)).block, (ad.add (i.toNat * 20)).off + 15, none⟩ = some (.int .i16 (rd_T54 xs i).f1.f1) ∧ w.cell? ⟨(ad.add (i.toNat * 20)).block, (ad.add (i.toNat * 20)).off + 16, none⟩ = some (.int .i16 (rd_T54 xs i).f1.f2) ∧ w.cell? ⟨(ad.add (i.toNat * 20)).block, (ad.add (i.toNat * 20)).off + 17, none⟩ = some (.int .i8 (rd_T54 xs i).f2.f0) ∧ w.cell? ⟨(ad.add (i.toNat * 20)).block, (ad.add (i.toNat * 20)).off + 18, none⟩ = some (.bool (rd_T54 xs i).f2.f1) ∧ w.cell? ⟨(ad.add (i.toNat * 20)).block, (ad.add (i.toNat * 20)).off + 19, none⟩ = some (.bool (rd_T54 xs i).f3) := by
 obtain ⟨ad, c, e, _, hK, hc0⟩ := Kd.C_get h z54 i h0 h1
 have hc : ∀ j u, c[j]? = some u → w.cell? (ad.add (i.toNat * 20 + j)) = some u := hc0
 obtain rfl := k54_open hK
 exact ⟨ad, e, hc 0 _ rfl, by rw [← zs _ _ 1 (by omega)]; exact hc 1 _ rfl, by rw [← zs _ _ 2 (by omega)]; exact hc 2 _ rfl, by rw [← zs _ _ 3 (by omega)]; exact hc 3 _ rfl, by rw [← zs _ _ 4 (by omega)]; exact hc 4 _ rfl, by rw [← zs _ _ 5 (by omega)]; exact hc 5 _ rfl, by rw [← zs _ _ 6 (by omega)]; exact hc 6 _ rfl, by rw [← zs _ _ 7 (by omega)]; exact hc 7 _ rfl, by rw [← zs _ _ 8 (by omega)]; exact hc 8 _ rfl, by rw [← zs _ _ 9 (by omega)]; exact hc 9 _ rfl, by rw [← zs _ _ 10 (by omega)]; exact hc 10 _ rfl, by rw [← zs _ _ 11 (by omega)]; exact hc 11 _ rfl, by rw [← zs _ _ 12 (by omega)]; exact hc 12 _ rfl, by rw [← zs _ _ 13 (by omega)]; exact hc 13 _ rfl, by rw [← zs _ _ 14 (by omega)]; exact hc 14 _ rfl, by rw [← zs _ _ 15 (by omega)]; exact hc 15 _ rfl, by rw [← zs _ _ 16 (by omega)]; exact hc 16 _ rfl, by rw [← zs _ _ 17 (by omega)]; exact hc 17 _ rfl, by rw [← zs _ _ 18 (by omega)]; exact hc 18 _ rfl, by rw [← zs _ _ 19 (by omega)]; exact hc 19 _ rfl⟩

end Go.Proofs.Ytmmonhpjjjdnjaa.U
