-- Written by wip/tools/myprint.py.
import Derived.Test.YtmfbcklaomigaaaProg
import Derived.Below
import Derived.Deep.Draws
import Derived.Deep.AppendLies
import Derived.Maps.AppendAt
import Derived.OwnWalk
import Derived.Laws.BytesArg
import Derived.Laws.MakeOwn
import Derived.Laws.OwnMore
import Derived.Deep.OwnRows
import Derived.Tactics
import Derived.Lib.ConvBytes
import Derived.Laws.Slices
import Derived.WalkKit
import Derived.KernelRfl
import Derived.RowKit3
import Derived.Deep.LoopGhost
import Derived.Deep.QuietTactic
import Derived.BigQuiet
import Derived.WideLaws
import Derived.Deep.DeepCutAuto
import Derived.Deep.CutBlock
import Derived.Deep.RegionHeld3
import Derived.Laws.Rows
import Derived.Lib.AppendStr
import Derived.ArgAppend
import Derived.Laws.IdiomCopy
import Derived.OrdersHeld
import Derived.Laws.BitsLemmas
import Derived.RowKit
import Derived.ChangeKeysEq
import Derived.Test.YtmfbcklaomigaaaWWords
import Derived.Test.YtmfbcklaomigaaaWLast
import Derived.Test.YtmfbcklaomigaaaWTab
import Derived.Test.YtmfbcklaomigaaaWFour
import Derived.Test.YtmfbcklaomigaaaWQPut
import Derived.Test.YtmfbcklaomigaaaWApart
import Derived.Test.YtmfbcklaomigaaaWArr
import Derived.Test.YtmfbcklaomigaaaWZeros
import Derived.Test.YtmfbcklaomigaaaWFoot
import Derived.Test.YtmfbcklaomigaaaWKept
import Derived.Test.YtmfbcklaomigaaaWShare
import Derived.Test.YtmfbcklaomigaaaWN
import Derived.Test.YtmfbcklaomigaaaWFootNe
import Derived.Test.YtmfbcklaomigaaaWAt
import Derived.Test.YtmfbcklaomigaaaWEqStruct
import Derived.Test.YtmfbcklaomigaaaWRepsOne
import Derived.Test.YtmfbcklaomigaaaWInv
import Derived.Test.YtmfbcklaomigaaaWInvWords
import Derived.Test.YtmfbcklaomigaaaWGuard
import Derived.Test.YtmfbcklaomigaaaWNEv
import Derived.Test.YtmfbcklaomigaaaWMore
namespace Go.Proofs.Ytmfbcklaomigaaa.M
open Go.RowKit Go.Proofs.YtmfbcklaomigaaaW.PrintWords Go.Proofs.YtmfbcklaomigaaaW.PrintLast Go.Proofs.YtmfbcklaomigaaaW.PrintMore
attribute [local go_sem] zrb zqb zkc zhc zlb zkb ztb zub
set_option linter.unusedVariables false
set_option linter.unusedSimpArgs false
theorem zna {P : Program} {w : World} {d : Nat} {e : TypeId} {c : Nat} {xs ys : Array Value} {i : Nat} {is : List Nat} {a b : Value} {r s : Bool} (ha : (part e xs (i * c)).run P w = .ok a w) (hb : (part e ys (i * c)).run P w = .ok b w) (he : (Op.equalIn d e a b).run P w = .ok r w) (hr : (Op.eqItems d e c xs ys is).run P w = .ok s w) :
  (Op.eqItems d e c xs ys (i :: is)).run P w = .ok (r && s) w := by
 simp only [Op.eqItems, Sem.run_bind, ha, hb, he, Result.andThen_ok]
 cases r
 ·simp
 simpa using hr
theorem zde {P : Program} {w : World} {d : Nat} {e : TypeId} {c : Nat} {xs ys : Array Value} {i : Nat} {a b : Value} {r : Bool} (ha : (part e xs (i * c)).run P w = .ok a w) (hb : (part e ys (i * c)).run P w = .ok b w) (he : (Op.equalIn d e a b).run P w = .ok r w) :
  (Op.eqItems d e c xs ys [i]).run P w = .ok r w := by
 have h := zna (is := []) (s := true) ha hb he (by simp [Op.eqItems])
 rwa [Bool.and_true] at h
def zv {α : Type} (j i : Int) (a b : α) : α := if j = i then a else b
def errW : Option Int → Value
 | none => .nilIface
 | some c => .iface 0 (.int .i64 c)
theorem zn : errW none = .nilIface := rfl
theorem zm (c : Int) : errW (some c) = .iface 0 (.int .i64 c) := rfl
theorem zgc : (Try.prog.info? 38).map (fun i => (i.zero, i.size, i.bytes)) = some (some (.agg #[(.int .i8 0), (.bool false)]), 2, 2) := by kernel_rfl
theorem info43 : (Try.prog.info? 43).map (fun i => (i.zero, i.size, i.bytes)) = some (some (.agg #[(.int .i8 0), (.int .i8 0), (.int .i8 0), (.int .i8 0)]), 4, 4) := by kernel_rfl
theorem zyc : (Try.prog.info? 102).map (fun i => (i.zero, i.size, i.bytes)) = some (some (.agg #[(.int .i8 0), (.int .i8 0), (.int .i8 0), (.int .i8 0), (.int .i8 0), (.int .i8 0), (.int .i8 0), (.int .i8 0), (.int .i8 0), (.int .i8 0), (.int .i8 0), (.int .i8 0), (.int .i8 0), (.int .i8 0), (.int .i16 0), (.int .i16 0), (.int .i16 0), (.int .i8 0), (.bool false), (.bool false)]), 20, 24) := by kernel_rfl
-- the values' own types
structure S43 where
 f0 : Int
 f1 : Int
 f2 : Int
 f3 : Int
def z43 : S43 := ⟨(0 : Int), (0 : Int), (0 : Int), (0 : Int)⟩
def k43 : Kd S43 := Kd.iso (Kd.pair (Kd.int .i8) (Kd.pair (Kd.int .i8) (Kd.pair (Kd.int .i8) (Kd.int .i8)))) (fun x : S43 => (x.f0, x.f1, x.f2, x.f3))
theorem k43_open {w : World} {x : S43} {cs : List Value} (h : k43.K w x cs) : cs = [.int .i8 x.f0, .int .i8 x.f1, .int .i8 x.f2, .int .i8 x.f3] := by
 obtain ⟨_, _, rfl, rfl, ⟨_, _, rfl, rfl, ⟨_, _, rfl, rfl, rfl⟩⟩⟩ := h
 exact rfl
theorem zoc {w : World} {base : Nat} {ok : Nat → Prop} {x : S43} {cs : List Value} (h : k43.M w base ok x cs) : cs = [.int .i8 x.f0, .int .i8 x.f1, .int .i8 x.f2, .int .i8 x.f3] := by
 obtain ⟨_, _, rfl, rfl, ⟨_, _, rfl, rfl, ⟨_, _, rfl, rfl, rfl⟩⟩⟩ := h
 exact rfl
theorem k43_mk (w : World) (x : S43)  : k43.K w x [.int .i8 x.f0, .int .i8 x.f1, .int .i8 x.f2, .int .i8 x.f3] := ⟨[.int .i8 x.f0], [.int .i8 x.f1, .int .i8 x.f2, .int .i8 x.f3], rfl, rfl, ⟨[.int .i8 x.f1], [.int .i8 x.f2, .int .i8 x.f3], rfl, rfl, ⟨[.int .i8 x.f2], [.int .i8 x.f3], rfl, rfl, rfl⟩⟩⟩
theorem zye (w : World) (base : Nat) (ok : Nat → Prop) (x : S43)  : k43.M w base ok x [.int .i8 x.f0, .int .i8 x.f1, .int .i8 x.f2, .int .i8 x.f3] := ⟨[.int .i8 x.f0], [.int .i8 x.f1, .int .i8 x.f2, .int .i8 x.f3], rfl, rfl, ⟨[.int .i8 x.f1], [.int .i8 x.f2, .int .i8 x.f3], rfl, rfl, ⟨[.int .i8 x.f2], [.int .i8 x.f3], rfl, rfl, rfl⟩⟩⟩
def zj (xs : List S43) (i : Int) : S43 := xs.getD i.toNat z43
theorem zte {w : World} {A : Option Addr} {n : Nat} {xs : List S43} (h : Kd.C k43 w A n xs) (i : Int) (h0 : 0 ≤ i) (h1 : i < n) : ∃ ad , A = some ad ∧ w.cell? (ad.add (i.toNat * 4)) = some (.int .i8 (zj xs i).f0) ∧ w.cell? ⟨(ad.add (i.toNat * 4)).block, (ad.add (i.toNat * 4)).off + 1, none⟩ = some (.int .i8 (zj xs i).f1) ∧ w.cell? ⟨(ad.add (i.toNat * 4)).block, (ad.add (i.toNat * 4)).off + 2, none⟩ = some (.int .i8 (zj xs i).f2) ∧ w.cell? ⟨(ad.add (i.toNat * 4)).block, (ad.add (i.toNat * 4)).off + 3, none⟩ = some (.int .i8 (zj xs i).f3) := by
 obtain ⟨ad, c, e, _, hK, hc0⟩ := Kd.C_get h z43 i h0 h1
 have hc : ∀ j u, c[j]? = some u → w.cell? (ad.add (i.toNat * 4 + j)) = some u := hc0
 obtain rfl := k43_open hK
 exact ⟨ad, e, hc 0 _ rfl, by rw [← zea _ _ 1 (by omega)]; exact hc 1 _ rfl, by rw [← zea _ _ 2 (by omega)]; exact hc 2 _ rfl, by rw [← zea _ _ 3 (by omega)]; exact hc 3 _ rfl⟩
structure S96 where
 f0 : Int
 f1 : Int
 f2 : Int
 f3 : Int
 f4 : Int
 f5 : Int
 f6 : Int
 f7 : Int
 f8 : Int
 f9 : Int
 f10 : Int
 f11 : Int
 f12 : Int
 f13 : Int
def z96 : S96 := ⟨(0 : Int), (0 : Int), (0 : Int), (0 : Int), (0 : Int), (0 : Int), (0 : Int), (0 : Int), (0 : Int), (0 : Int), (0 : Int), (0 : Int), (0 : Int), (0 : Int)⟩
def k96 : Kd S96 := Kd.iso (Kd.pair (Kd.int .i8) (Kd.pair (Kd.int .i8) (Kd.pair (Kd.int .i8) (Kd.pair (Kd.int .i8) (Kd.pair (Kd.int .i8) (Kd.pair (Kd.int .i8) (Kd.pair (Kd.int .i8) (Kd.pair (Kd.int .i8) (Kd.pair (Kd.int .i8) (Kd.pair (Kd.int .i8) (Kd.pair (Kd.int .i8) (Kd.pair (Kd.int .i8) (Kd.pair (Kd.int .i8) (Kd.int .i8)))))))))))))) (fun x : S96 => (x.f0, x.f1, x.f2, x.f3, x.f4, x.f5, x.f6, x.f7, x.f8, x.f9, x.f10, x.f11, x.f12, x.f13))
theorem zaf {w : World} {x : S96} {cs : List Value} (h : k96.K w x cs) : cs = [.int .i8 x.f0, .int .i8 x.f1, .int .i8 x.f2, .int .i8 x.f3, .int .i8 x.f4, .int .i8 x.f5, .int .i8 x.f6, .int .i8 x.f7, .int .i8 x.f8, .int .i8 x.f9, .int .i8 x.f10, .int .i8 x.f11, .int .i8 x.f12, .int .i8 x.f13] := by
 obtain ⟨_, _, rfl, rfl, ⟨_, _, rfl, rfl, ⟨_, _, rfl, rfl, ⟨_, _, rfl, rfl, ⟨_, _, rfl, rfl, ⟨_, _, rfl, rfl, ⟨_, _, rfl, rfl, ⟨_, _, rfl, rfl, ⟨_, _, rfl, rfl, ⟨_, _, rfl, rfl, ⟨_, _, rfl, rfl, ⟨_, _, rfl, rfl, ⟨_, _, rfl, rfl, rfl⟩⟩⟩⟩⟩⟩⟩⟩⟩⟩⟩⟩⟩ := h
 exact rfl
theorem k96_openM {w : World} {base : Nat} {ok : Nat → Prop} {x : S96} {cs : List Value} (h : k96.M w base ok x cs) : cs = [.int .i8 x.f0, .int .i8 x.f1, .int .i8 x.f2, .int .i8 x.f3, .int .i8 x.f4, .int .i8 x.f5, .int .i8 x.f6, .int .i8 x.f7, .int .i8 x.f8, .int .i8 x.f9, .int .i8 x.f10, .int .i8 x.f11, .int .i8 x.f12, .int .i8 x.f13] := by
 obtain ⟨_, _, rfl, rfl, ⟨_, _, rfl, rfl, ⟨_, _, rfl, rfl, ⟨_, _, rfl, rfl, ⟨_, _, rfl, rfl, ⟨_, _, rfl, rfl, ⟨_, _, rfl, rfl, ⟨_, _, rfl, rfl, ⟨_, _, rfl, rfl, ⟨_, _, rfl, rfl, ⟨_, _, rfl, rfl, ⟨_, _, rfl, rfl, ⟨_, _, rfl, rfl, rfl⟩⟩⟩⟩⟩⟩⟩⟩⟩⟩⟩⟩⟩ := h
 exact rfl
theorem k96_mk (w : World) (x : S96)  : k96.K w x [.int .i8 x.f0, .int .i8 x.f1, .int .i8 x.f2, .int .i8 x.f3, .int .i8 x.f4, .int .i8 x.f5, .int .i8 x.f6, .int .i8 x.f7, .int .i8 x.f8, .int .i8 x.f9, .int .i8 x.f10, .int .i8 x.f11, .int .i8 x.f12, .int .i8 x.f13] := ⟨[.int .i8 x.f0], [.int .i8 x.f1, .int .i8 x.f2, .int .i8 x.f3, .int .i8 x.f4, .int .i8 x.f5, .int .i8 x.f6, .int .i8 x.f7, .int .i8 x.f8, .int .i8 x.f9, .int .i8 x.f10, .int .i8 x.f11, .int .i8 x.f12, .int .i8 x.f13], rfl, rfl, ⟨[.int .i8 x.f1], [.int .i8 x.f2, .int .i8 x.f3, .int .i8 x.f4, .int .i8 x.f5, .int .i8 x.f6, .int .i8 x.f7, .int .i8 x.f8, .int .i8 x.f9, .int .i8 x.f10, .int .i8 x.f11, .int .i8 x.f12, .int .i8 x.f13], rfl, rfl, ⟨[.int .i8 x.f2], [.int .i8 x.f3, .int .i8 x.f4, .int .i8 x.f5, .int .i8 x.f6, .int .i8 x.f7, .int .i8 x.f8, .int .i8 x.f9, .int .i8 x.f10, .int .i8 x.f11, .int .i8 x.f12, .int .i8 x.f13], rfl, rfl, ⟨[.int .i8 x.f3], [.int .i8 x.f4, .int .i8 x.f5, .int .i8 x.f6, .int .i8 x.f7, .int .i8 x.f8, .int .i8 x.f9, .int .i8 x.f10, .int .i8 x.f11, .int .i8 x.f12, .int .i8 x.f13], rfl, rfl, ⟨[.int .i8 x.f4], [.int .i8 x.f5, .int .i8 x.f6, .int .i8 x.f7, .int .i8 x.f8, .int .i8 x.f9, .int .i8 x.f10, .int .i8 x.f11, .int .i8 x.f12, .int .i8 x.f13], rfl, rfl, ⟨[.int .i8 x.f5], [.int .i8 x.f6, .int .i8 x.f7, .int .i8 x.f8, .int .i8 x.f9, .int .i8 x.f10, .int .i8 x.f11, .int .i8 x.f12, .int .i8 x.f13], rfl, rfl, ⟨[.int .i8 x.f6], [.int .i8 x.f7, .int .i8 x.f8, .int .i8 x.f9, .int .i8 x.f10, .int .i8 x.f11, .int .i8 x.f12, .int .i8 x.f13], rfl, rfl, ⟨[.int .i8 x.f7], [.int .i8 x.f8, .int .i8 x.f9, .int .i8 x.f10, .int .i8 x.f11, .int .i8 x.f12, .int .i8 x.f13], rfl, rfl, ⟨[.int .i8 x.f8], [.int .i8 x.f9, .int .i8 x.f10, .int .i8 x.f11, .int .i8 x.f12, .int .i8 x.f13], rfl, rfl, ⟨[.int .i8 x.f9], [.int .i8 x.f10, .int .i8 x.f11, .int .i8 x.f12, .int .i8 x.f13], rfl, rfl, ⟨[.int .i8 x.f10], [.int .i8 x.f11, .int .i8 x.f12, .int .i8 x.f13], rfl, rfl, ⟨[.int .i8 x.f11], [.int .i8 x.f12, .int .i8 x.f13], rfl, rfl, ⟨[.int .i8 x.f12], [.int .i8 x.f13], rfl, rfl, rfl⟩⟩⟩⟩⟩⟩⟩⟩⟩⟩⟩⟩⟩
theorem k96_mkM (w : World) (base : Nat) (ok : Nat → Prop) (x : S96)  : k96.M w base ok x [.int .i8 x.f0, .int .i8 x.f1, .int .i8 x.f2, .int .i8 x.f3, .int .i8 x.f4, .int .i8 x.f5, .int .i8 x.f6, .int .i8 x.f7, .int .i8 x.f8, .int .i8 x.f9, .int .i8 x.f10, .int .i8 x.f11, .int .i8 x.f12, .int .i8 x.f13] := ⟨[.int .i8 x.f0], [.int .i8 x.f1, .int .i8 x.f2, .int .i8 x.f3, .int .i8 x.f4, .int .i8 x.f5, .int .i8 x.f6, .int .i8 x.f7, .int .i8 x.f8, .int .i8 x.f9, .int .i8 x.f10, .int .i8 x.f11, .int .i8 x.f12, .int .i8 x.f13], rfl, rfl, ⟨[.int .i8 x.f1], [.int .i8 x.f2, .int .i8 x.f3, .int .i8 x.f4, .int .i8 x.f5, .int .i8 x.f6, .int .i8 x.f7, .int .i8 x.f8, .int .i8 x.f9, .int .i8 x.f10, .int .i8 x.f11, .int .i8 x.f12, .int .i8 x.f13], rfl, rfl, ⟨[.int .i8 x.f2], [.int .i8 x.f3, .int .i8 x.f4, .int .i8 x.f5, .int .i8 x.f6, .int .i8 x.f7, .int .i8 x.f8, .int .i8 x.f9, .int .i8 x.f10, .int .i8 x.f11, .int .i8 x.f12, .int .i8 x.f13], rfl, rfl, ⟨[.int .i8 x.f3], [.int .i8 x.f4, .int .i8 x.f5, .int .i8 x.f6, .int .i8 x.f7, .int .i8 x.f8, .int .i8 x.f9, .int .i8 x.f10, .int .i8 x.f11, .int .i8 x.f12, .int .i8 x.f13], rfl, rfl, ⟨[.int .i8 x.f4], [.int .i8 x.f5, .int .i8 x.f6, .int .i8 x.f7, .int .i8 x.f8, .int .i8 x.f9, .int .i8 x.f10, .int .i8 x.f11, .int .i8 x.f12, .int .i8 x.f13], rfl, rfl, ⟨[.int .i8 x.f5], [.int .i8 x.f6, .int .i8 x.f7, .int .i8 x.f8, .int .i8 x.f9, .int .i8 x.f10, .int .i8 x.f11, .int .i8 x.f12, .int .i8 x.f13], rfl, rfl, ⟨[.int .i8 x.f6], [.int .i8 x.f7, .int .i8 x.f8, .int .i8 x.f9, .int .i8 x.f10, .int .i8 x.f11, .int .i8 x.f12, .int .i8 x.f13], rfl, rfl, ⟨[.int .i8 x.f7], [.int .i8 x.f8, .int .i8 x.f9, .int .i8 x.f10, .int .i8 x.f11, .int .i8 x.f12, .int .i8 x.f13], rfl, rfl, ⟨[.int .i8 x.f8], [.int .i8 x.f9, .int .i8 x.f10, .int .i8 x.f11, .int .i8 x.f12, .int .i8 x.f13], rfl, rfl, ⟨[.int .i8 x.f9], [.int .i8 x.f10, .int .i8 x.f11, .int .i8 x.f12, .int .i8 x.f13], rfl, rfl, ⟨[.int .i8 x.f10], [.int .i8 x.f11, .int .i8 x.f12, .int .i8 x.f13], rfl, rfl, ⟨[.int .i8 x.f11], [.int .i8 x.f12, .int .i8 x.f13], rfl, rfl, ⟨[.int .i8 x.f12], [.int .i8 x.f13], rfl, rfl, rfl⟩⟩⟩⟩⟩⟩⟩⟩⟩⟩⟩⟩⟩
def zob (xs : List S96) (i : Int) : S96 := xs.getD i.toNat z96
theorem at_T96 {w : World} {A : Option Addr} {n : Nat} {xs : List S96} (h : Kd.C k96 w A n xs) (i : Int) (h0 : 0 ≤ i) (h1 : i < n) : ∃ ad , A = some ad ∧ w.cell? (ad.add (i.toNat * 14)) = some (.int .i8 (zob xs i).f0) ∧ w.cell? ⟨(ad.add (i.toNat * 14)).block, (ad.add (i.toNat * 14)).off + 1, none⟩ = some (.int .i8 (zob xs i).f1) ∧ w.cell? ⟨(ad.add (i.toNat * 14)).block, (ad.add (i.toNat * 14)).off + 2, none⟩ = some (.int .i8 (zob xs i).f2) ∧ w.cell? ⟨(ad.add (i.toNat * 14)).block, (ad.add (i.toNat * 14)).off + 3, none⟩ = some (.int .i8 (zob xs i).f3) ∧ w.cell? ⟨(ad.add (i.toNat * 14)).block, (ad.add (i.toNat * 14)).off + 4, none⟩ = some (.int .i8 (zob xs i).f4) ∧ w.cell? ⟨(ad.add (i.toNat * 14)).block, (ad.add (i.toNat * 14)).off + 5, none⟩ = some (.int .i8 (zob xs i).f5) ∧ w.cell? ⟨(ad.add (i.toNat * 14)).block, (ad.add (i.toNat * 14)).off + 6, none⟩ = some (.int .i8 (zob xs i).f6) ∧ w.cell? ⟨(ad.add (i.toNat * 14)).block, (ad.add (i.toNat * 14)).off + 7, none⟩ = some (.int .i8 (zob xs i).f7) ∧ w.cell? ⟨(ad.add (i.toNat * 14)).block, (ad.add (i.toNat * 14)).off + 8, none⟩ = some (.int .i8 (zob xs i).f8) ∧ w.cell? ⟨(ad.add (i.toNat * 14)).block, (ad.add (i.toNat * 14)).off + 9, none⟩ = some (.int .i8 (zob xs i).f9) ∧ w.cell? ⟨(ad.add (i.toNat * 14)).block, (ad.add (i.toNat * 14)).off + 10, none⟩ = some (.int .i8 (zob xs i).f10) ∧ w.cell? ⟨(ad.add (i.toNat * 14)).block, (ad.add (i.toNat * 14)).off + 11, none⟩ = some (.int .i8 (zob xs i).f11) ∧ w.cell? ⟨(ad.add (i.toNat * 14)).block, (ad.add (i.toNat * 14)).off + 12, none⟩ = some (.int .i8 (zob xs i).f12) ∧ w.cell? ⟨(ad.add (i.toNat * 14)).block, (ad.add (i.toNat * 14)).off + 13, none⟩ = some (.int .i8 (zob xs i).f13) := by
 obtain ⟨ad, c, e, _, hK, hc0⟩ := Kd.C_get h z96 i h0 h1
 have hc : ∀ j u, c[j]? = some u → w.cell? (ad.add (i.toNat * 14 + j)) = some u := hc0
 obtain rfl := zaf hK
 exact ⟨ad, e, hc 0 _ rfl, by rw [← zea _ _ 1 (by omega)]; exact hc 1 _ rfl, by rw [← zea _ _ 2 (by omega)]; exact hc 2 _ rfl, by rw [← zea _ _ 3 (by omega)]; exact hc 3 _ rfl, by rw [← zea _ _ 4 (by omega)]; exact hc 4 _ rfl, by rw [← zea _ _ 5 (by omega)]; exact hc 5 _ rfl, by rw [← zea _ _ 6 (by omega)]; exact hc 6 _ rfl, by rw [← zea _ _ 7 (by omega)]; exact hc 7 _ rfl, by rw [← zea _ _ 8 (by omega)]; exact hc 8 _ rfl, by rw [← zea _ _ 9 (by omega)]; exact hc 9 _ rfl, by rw [← zea _ _ 10 (by omega)]; exact hc 10 _ rfl, by rw [← zea _ _ 11 (by omega)]; exact hc 11 _ rfl, by rw [← zea _ _ 12 (by omega)]; exact hc 12 _ rfl, by rw [← zea _ _ 13 (by omega)]; exact hc 13 _ rfl⟩
structure S100 where
 f0 : Int
 f1 : Int
 f2 : Int
def z100 : S100 := ⟨(0 : Int), (0 : Int), (0 : Int)⟩
def k100 : Kd S100 := Kd.iso (Kd.pair (Kd.int .i16) (Kd.pair (Kd.int .i16) (Kd.int .i16))) (fun x : S100 => (x.f0, x.f1, x.f2))
theorem zue {w : World} {x : S100} {cs : List Value} (h : k100.K w x cs) : cs = [.int .i16 x.f0, .int .i16 x.f1, .int .i16 x.f2] := by
 obtain ⟨_, _, rfl, rfl, ⟨_, _, rfl, rfl, rfl⟩⟩ := h
 exact rfl
theorem k100_openM {w : World} {base : Nat} {ok : Nat → Prop} {x : S100} {cs : List Value} (h : k100.M w base ok x cs) : cs = [.int .i16 x.f0, .int .i16 x.f1, .int .i16 x.f2] := by
 obtain ⟨_, _, rfl, rfl, ⟨_, _, rfl, rfl, rfl⟩⟩ := h
 exact rfl
theorem k100_mk (w : World) (x : S100)  : k100.K w x [.int .i16 x.f0, .int .i16 x.f1, .int .i16 x.f2] := ⟨[.int .i16 x.f0], [.int .i16 x.f1, .int .i16 x.f2], rfl, rfl, ⟨[.int .i16 x.f1], [.int .i16 x.f2], rfl, rfl, rfl⟩⟩
theorem k100_mkM (w : World) (base : Nat) (ok : Nat → Prop) (x : S100)  : k100.M w base ok x [.int .i16 x.f0, .int .i16 x.f1, .int .i16 x.f2] := ⟨[.int .i16 x.f0], [.int .i16 x.f1, .int .i16 x.f2], rfl, rfl, ⟨[.int .i16 x.f1], [.int .i16 x.f2], rfl, rfl, rfl⟩⟩
def zxe (xs : List S100) (i : Int) : S100 := xs.getD i.toNat z100
theorem at_T100 {w : World} {A : Option Addr} {n : Nat} {xs : List S100} (h : Kd.C k100 w A n xs) (i : Int) (h0 : 0 ≤ i) (h1 : i < n) : ∃ ad , A = some ad ∧ w.cell? (ad.add (i.toNat * 3)) = some (.int .i16 (zxe xs i).f0) ∧ w.cell? ⟨(ad.add (i.toNat * 3)).block, (ad.add (i.toNat * 3)).off + 1, none⟩ = some (.int .i16 (zxe xs i).f1) ∧ w.cell? ⟨(ad.add (i.toNat * 3)).block, (ad.add (i.toNat * 3)).off + 2, none⟩ = some (.int .i16 (zxe xs i).f2) := by
 obtain ⟨ad, c, e, _, hK, hc0⟩ := Kd.C_get h z100 i h0 h1
 have hc : ∀ j u, c[j]? = some u → w.cell? (ad.add (i.toNat * 3 + j)) = some u := hc0
 obtain rfl := zue hK
 exact ⟨ad, e, hc 0 _ rfl, by rw [← zea _ _ 1 (by omega)]; exact hc 1 _ rfl, by rw [← zea _ _ 2 (by omega)]; exact hc 2 _ rfl⟩
structure S38 where
 f0 : Int
 f1 : Bool
def z38 : S38 := ⟨(0 : Int), false⟩
def k38 : Kd S38 := Kd.iso (Kd.pair (Kd.int .i8) Kd.bool) (fun x : S38 => (x.f0, x.f1))
theorem zbf {w : World} {x : S38} {cs : List Value} (h : k38.K w x cs) : cs = [.int .i8 x.f0, .bool x.f1] := by
 obtain ⟨_, _, rfl, rfl, rfl⟩ := h
 exact rfl
theorem k38_openM {w : World} {base : Nat} {ok : Nat → Prop} {x : S38} {cs : List Value} (h : k38.M w base ok x cs) : cs = [.int .i8 x.f0, .bool x.f1] := by
 obtain ⟨_, _, rfl, rfl, rfl⟩ := h
 exact rfl
theorem k38_mk (w : World) (x : S38)  : k38.K w x [.int .i8 x.f0, .bool x.f1] := ⟨[.int .i8 x.f0], [.bool x.f1], rfl, rfl, rfl⟩
theorem zib (w : World) (base : Nat) (ok : Nat → Prop) (x : S38)  : k38.M w base ok x [.int .i8 x.f0, .bool x.f1] := ⟨[.int .i8 x.f0], [.bool x.f1], rfl, rfl, rfl⟩
def zha (xs : List S38) (i : Int) : S38 := xs.getD i.toNat z38
theorem zne {w : World} {A : Option Addr} {n : Nat} {xs : List S38} (h : Kd.C k38 w A n xs) (i : Int) (h0 : 0 ≤ i) (h1 : i < n) : ∃ ad , A = some ad ∧ w.cell? (ad.add (i.toNat * 2)) = some (.int .i8 (zha xs i).f0) ∧ w.cell? ⟨(ad.add (i.toNat * 2)).block, (ad.add (i.toNat * 2)).off + 1, none⟩ = some (.bool (zha xs i).f1) := by
 obtain ⟨ad, c, e, _, hK, hc0⟩ := Kd.C_get h z38 i h0 h1
 have hc : ∀ j u, c[j]? = some u → w.cell? (ad.add (i.toNat * 2 + j)) = some u := hc0
 obtain rfl := zbf hK
 exact ⟨ad, e, hc 0 _ rfl, by rw [← zea _ _ 1 (by omega)]; exact hc 1 _ rfl⟩
structure S102 where
 f0 : S96
 f1 : S100
 f2 : S38
 f3 : Bool
def z102 : S102 := ⟨z96, z100, z38, false⟩
def k102 : Kd S102 := Kd.iso (Kd.pair k96 (Kd.pair k100 (Kd.pair k38 Kd.bool))) (fun x : S102 => (x.f0, x.f1, x.f2, x.f3))
theorem k102_open {w : World} {x : S102} {cs : List Value} (h : k102.K w x cs) : cs = [.int .i8 x.f0.f0, .int .i8 x.f0.f1, .int .i8 x.f0.f2, .int .i8 x.f0.f3, .int .i8 x.f0.f4, .int .i8 x.f0.f5, .int .i8 x.f0.f6, .int .i8 x.f0.f7, .int .i8 x.f0.f8, .int .i8 x.f0.f9, .int .i8 x.f0.f10, .int .i8 x.f0.f11, .int .i8 x.f0.f12, .int .i8 x.f0.f13, .int .i16 x.f1.f0, .int .i16 x.f1.f1, .int .i16 x.f1.f2, .int .i8 x.f2.f0, .bool x.f2.f1, .bool x.f3] := by
 obtain ⟨_, _, rfl, s0, ⟨_, _, rfl, s14, ⟨_, _, rfl, s17, rfl⟩⟩⟩ := h
 obtain rfl := zaf s0
 obtain rfl := zue s14
 obtain rfl := zbf s17
 exact rfl
theorem zqa {w : World} {base : Nat} {ok : Nat → Prop} {x : S102} {cs : List Value} (h : k102.M w base ok x cs) : cs = [.int .i8 x.f0.f0, .int .i8 x.f0.f1, .int .i8 x.f0.f2, .int .i8 x.f0.f3, .int .i8 x.f0.f4, .int .i8 x.f0.f5, .int .i8 x.f0.f6, .int .i8 x.f0.f7, .int .i8 x.f0.f8, .int .i8 x.f0.f9, .int .i8 x.f0.f10, .int .i8 x.f0.f11, .int .i8 x.f0.f12, .int .i8 x.f0.f13, .int .i16 x.f1.f0, .int .i16 x.f1.f1, .int .i16 x.f1.f2, .int .i8 x.f2.f0, .bool x.f2.f1, .bool x.f3] := by
 obtain ⟨_, _, rfl, s0, ⟨_, _, rfl, s14, ⟨_, _, rfl, s17, rfl⟩⟩⟩ := h
 obtain rfl := k96_openM s0
 obtain rfl := k100_openM s14
 obtain rfl := k38_openM s17
 exact rfl
theorem k102_mk (w : World) (x : S102)  : k102.K w x [.int .i8 x.f0.f0, .int .i8 x.f0.f1, .int .i8 x.f0.f2, .int .i8 x.f0.f3, .int .i8 x.f0.f4, .int .i8 x.f0.f5, .int .i8 x.f0.f6, .int .i8 x.f0.f7, .int .i8 x.f0.f8, .int .i8 x.f0.f9, .int .i8 x.f0.f10, .int .i8 x.f0.f11, .int .i8 x.f0.f12, .int .i8 x.f0.f13, .int .i16 x.f1.f0, .int .i16 x.f1.f1, .int .i16 x.f1.f2, .int .i8 x.f2.f0, .bool x.f2.f1, .bool x.f3] := ⟨[.int .i8 x.f0.f0, .int .i8 x.f0.f1, .int .i8 x.f0.f2, .int .i8 x.f0.f3, .int .i8 x.f0.f4, .int .i8 x.f0.f5, .int .i8 x.f0.f6, .int .i8 x.f0.f7, .int .i8 x.f0.f8, .int .i8 x.f0.f9, .int .i8 x.f0.f10, .int .i8 x.f0.f11, .int .i8 x.f0.f12, .int .i8 x.f0.f13], [.int .i16 x.f1.f0, .int .i16 x.f1.f1, .int .i16 x.f1.f2, .int .i8 x.f2.f0, .bool x.f2.f1, .bool x.f3], rfl, (k96_mk w x.f0 ), ⟨[.int .i16 x.f1.f0, .int .i16 x.f1.f1, .int .i16 x.f1.f2], [.int .i8 x.f2.f0, .bool x.f2.f1, .bool x.f3], rfl, (k100_mk w x.f1 ), ⟨[.int .i8 x.f2.f0, .bool x.f2.f1], [.bool x.f3], rfl, (k38_mk w x.f2 ), rfl⟩⟩⟩
theorem zza (w : World) (base : Nat) (ok : Nat → Prop) (x : S102)  : k102.M w base ok x [.int .i8 x.f0.f0, .int .i8 x.f0.f1, .int .i8 x.f0.f2, .int .i8 x.f0.f3, .int .i8 x.f0.f4, .int .i8 x.f0.f5, .int .i8 x.f0.f6, .int .i8 x.f0.f7, .int .i8 x.f0.f8, .int .i8 x.f0.f9, .int .i8 x.f0.f10, .int .i8 x.f0.f11, .int .i8 x.f0.f12, .int .i8 x.f0.f13, .int .i16 x.f1.f0, .int .i16 x.f1.f1, .int .i16 x.f1.f2, .int .i8 x.f2.f0, .bool x.f2.f1, .bool x.f3] := ⟨[.int .i8 x.f0.f0, .int .i8 x.f0.f1, .int .i8 x.f0.f2, .int .i8 x.f0.f3, .int .i8 x.f0.f4, .int .i8 x.f0.f5, .int .i8 x.f0.f6, .int .i8 x.f0.f7, .int .i8 x.f0.f8, .int .i8 x.f0.f9, .int .i8 x.f0.f10, .int .i8 x.f0.f11, .int .i8 x.f0.f12, .int .i8 x.f0.f13], [.int .i16 x.f1.f0, .int .i16 x.f1.f1, .int .i16 x.f1.f2, .int .i8 x.f2.f0, .bool x.f2.f1, .bool x.f3], rfl, (k96_mkM w base ok x.f0 ), ⟨[.int .i16 x.f1.f0, .int .i16 x.f1.f1, .int .i16 x.f1.f2], [.int .i8 x.f2.f0, .bool x.f2.f1, .bool x.f3], rfl, (k100_mkM w base ok x.f1 ), ⟨[.int .i8 x.f2.f0, .bool x.f2.f1], [.bool x.f3], rfl, (zib w base ok x.f2 ), rfl⟩⟩⟩
def zh (xs : List S102) (i : Int) : S102 := xs.getD i.toNat z102
theorem zab {w : World} {A : Option Addr} {n : Nat} {xs : List S102} (h : Kd.C k102 w A n xs) (i : Int) (h0 : 0 ≤ i) (h1 : i < n) : ∃ ad , A = some ad ∧ w.cell? (ad.add (i.toNat * 20)) = some (.int .i8 (zh xs i).f0.f0) ∧ w.cell? ⟨(ad.add (i.toNat * 20)).block, (ad.add (i.toNat * 20)).off + 1, none⟩ = some (.int .i8 (zh xs i).f0.f1) ∧ w.cell? ⟨(ad.add (i.toNat * 20)).block, (ad.add (i.toNat * 20)).off + 2, none⟩ = some (.int .i8 (zh xs i).f0.f2) ∧ w.cell? ⟨(ad.add (i.toNat * 20)).block, (ad.add (i.toNat * 20)).off + 3, none⟩ = some (.int .i8 (zh xs i).f0.f3) ∧ w.cell? ⟨(ad.add (i.toNat * 20)).block, (ad.add (i.toNat * 20)).off + 4, none⟩ = some (.int .i8 (zh xs i).f0.f4) ∧ w.cell? ⟨(ad.add (i.toNat * 20)).block, (ad.add (i.toNat * 20)).off + 5, none⟩ = some (.int .i8 (zh xs i).f0.f5) ∧ w.cell? ⟨(ad.add (i.toNat * 20)).block, (ad.add (i.toNat * 20)).off + 6, none⟩ = some (.int .i8 (zh xs i).f0.f6) ∧ w.cell? ⟨(ad.add (i.toNat * 20)).block, (ad.add (i.toNat * 20)).off + 7, none⟩ = some (.int .i8 (zh xs i).f0.f7) ∧ w.cell? ⟨(ad.add (i.toNat * 20)).block, (ad.add (i.toNat * 20)).off + 8, none⟩ = some (.int .i8 (zh xs i).f0.f8) ∧ w.cell? ⟨(ad.add (i.toNat * 20)).block, (ad.add (i.toNat * 20)).off + 9, none⟩ = some (.int .i8 (zh xs i).f0.f9) ∧ w.cell? ⟨(ad.add (i.toNat * 20)).block, (ad.add (i.toNat * 20)).off + 10, none⟩ = some (.int .i8 (zh xs i).f0.f10) ∧ w.cell? ⟨(ad.add (i.toNat * 20)).block, (ad.add (i.toNat * 20)).off + 11, none⟩ = some (.int .i8 (zh xs i).f0.f11) ∧ w.cell? ⟨(ad.add (i.toNat * 20)).block, (ad.add (i.toNat * 20)).off + 12, none⟩ = some (.int .i8 (zh xs i).f0.f12) ∧ w.cell? ⟨(ad.add (i.toNat * 20)).block, (ad.add (i.toNat * 20)).off + 13, none⟩ = some (.int .i8 (zh xs i).f0.f13) ∧ w.cell? ⟨(ad.add (i.toNat * 20)).block, (ad.add (i.toNat * 20)).off + 14, none⟩ = some (.int .i16 (zh xs i).f1.f0) ∧ w.cell? ⟨(ad.add (i.toNat * 20)).block, (ad.add (i.toNat * 20)).off + 15, none⟩ = some (.int .i16 (zh xs i).f1.f1) ∧ w.cell? ⟨(ad.add (i.toNat * 20)).block, (ad.add (i.toNat * 20)).off + 16, none⟩ = some (.int .i16 (zh xs i).f1.f2) ∧ w.cell? ⟨(ad.add (i.toNat * 20)).block, (ad.add (i.toNat * 20)).off + 17, none⟩ = some (.int .i8 (zh xs i).f2.f0) ∧ w.cell? ⟨(ad.add (i.toNat * 20)).block, (ad.add (i.toNat * 20)).off + 18, none⟩ = some (.bool (zh xs i).f2.f1) ∧ w.cell? ⟨(ad.add (i.toNat * 20)).block, (ad.add (i.toNat * 20)).off + 19, none⟩ = some (.bool (zh xs i).f3) := by
 obtain ⟨ad, c, e, _, hK, hc0⟩ := Kd.C_get h z102 i h0 h1
 have hc : ∀ j u, c[j]? = some u → w.cell? (ad.add (i.toNat * 20 + j)) = some u := hc0
 obtain rfl := k102_open hK
 exact ⟨ad, e, hc 0 _ rfl, by rw [← zea _ _ 1 (by omega)]; exact hc 1 _ rfl, by rw [← zea _ _ 2 (by omega)]; exact hc 2 _ rfl, by rw [← zea _ _ 3 (by omega)]; exact hc 3 _ rfl, by rw [← zea _ _ 4 (by omega)]; exact hc 4 _ rfl, by rw [← zea _ _ 5 (by omega)]; exact hc 5 _ rfl, by rw [← zea _ _ 6 (by omega)]; exact hc 6 _ rfl, by rw [← zea _ _ 7 (by omega)]; exact hc 7 _ rfl, by rw [← zea _ _ 8 (by omega)]; exact hc 8 _ rfl, by rw [← zea _ _ 9 (by omega)]; exact hc 9 _ rfl, by rw [← zea _ _ 10 (by omega)]; exact hc 10 _ rfl, by rw [← zea _ _ 11 (by omega)]; exact hc 11 _ rfl, by rw [← zea _ _ 12 (by omega)]; exact hc 12 _ rfl, by rw [← zea _ _ 13 (by omega)]; exact hc 13 _ rfl, by rw [← zea _ _ 14 (by omega)]; exact hc 14 _ rfl, by rw [← zea _ _ 15 (by omega)]; exact hc 15 _ rfl, by rw [← zea _ _ 16 (by omega)]; exact hc 16 _ rfl, by rw [← zea _ _ 17 (by omega)]; exact hc 17 _ rfl, by rw [← zea _ _ 18 (by omega)]; exact hc 18 _ rfl, by rw [← zea _ _ 19 (by omega)]; exact hc 19 _ rfl⟩
structure S42 where
 f0 : Int
 f1 : Int
 f2 : Int
 f3 : Int
def z42 : S42 := ⟨(0 : Int), (0 : Int), (0 : Int), (0 : Int)⟩
def k42 : Kd S42 := Kd.iso (Kd.pair (Kd.int .i8) (Kd.pair (Kd.int .i8) (Kd.pair (Kd.int .i8) (Kd.int .i8)))) (fun x : S42 => (x.f0, x.f1, x.f2, x.f3))
theorem k42_open {w : World} {x : S42} {cs : List Value} (h : k42.K w x cs) : cs = [.int .i8 x.f0, .int .i8 x.f1, .int .i8 x.f2, .int .i8 x.f3] := by
 obtain ⟨_, _, rfl, rfl, ⟨_, _, rfl, rfl, ⟨_, _, rfl, rfl, rfl⟩⟩⟩ := h
 exact rfl
theorem k42_openM {w : World} {base : Nat} {ok : Nat → Prop} {x : S42} {cs : List Value} (h : k42.M w base ok x cs) : cs = [.int .i8 x.f0, .int .i8 x.f1, .int .i8 x.f2, .int .i8 x.f3] := by
 obtain ⟨_, _, rfl, rfl, ⟨_, _, rfl, rfl, ⟨_, _, rfl, rfl, rfl⟩⟩⟩ := h
 exact rfl
theorem k42_mk (w : World) (x : S42)  : k42.K w x [.int .i8 x.f0, .int .i8 x.f1, .int .i8 x.f2, .int .i8 x.f3] := ⟨[.int .i8 x.f0], [.int .i8 x.f1, .int .i8 x.f2, .int .i8 x.f3], rfl, rfl, ⟨[.int .i8 x.f1], [.int .i8 x.f2, .int .i8 x.f3], rfl, rfl, ⟨[.int .i8 x.f2], [.int .i8 x.f3], rfl, rfl, rfl⟩⟩⟩
theorem k42_mkM (w : World) (base : Nat) (ok : Nat → Prop) (x : S42)  : k42.M w base ok x [.int .i8 x.f0, .int .i8 x.f1, .int .i8 x.f2, .int .i8 x.f3] := ⟨[.int .i8 x.f0], [.int .i8 x.f1, .int .i8 x.f2, .int .i8 x.f3], rfl, rfl, ⟨[.int .i8 x.f1], [.int .i8 x.f2, .int .i8 x.f3], rfl, rfl, ⟨[.int .i8 x.f2], [.int .i8 x.f3], rfl, rfl, rfl⟩⟩⟩
def zua (xs : List S42) (i : Int) : S42 := xs.getD i.toNat z42
theorem at_T42 {w : World} {A : Option Addr} {n : Nat} {xs : List S42} (h : Kd.C k42 w A n xs) (i : Int) (h0 : 0 ≤ i) (h1 : i < n) : ∃ ad , A = some ad ∧ w.cell? (ad.add (i.toNat * 4)) = some (.int .i8 (zua xs i).f0) ∧ w.cell? ⟨(ad.add (i.toNat * 4)).block, (ad.add (i.toNat * 4)).off + 1, none⟩ = some (.int .i8 (zua xs i).f1) ∧ w.cell? ⟨(ad.add (i.toNat * 4)).block, (ad.add (i.toNat * 4)).off + 2, none⟩ = some (.int .i8 (zua xs i).f2) ∧ w.cell? ⟨(ad.add (i.toNat * 4)).block, (ad.add (i.toNat * 4)).off + 3, none⟩ = some (.int .i8 (zua xs i).f3) := by
 obtain ⟨ad, c, e, _, hK, hc0⟩ := Kd.C_get h z42 i h0 h1
 have hc : ∀ j u, c[j]? = some u → w.cell? (ad.add (i.toNat * 4 + j)) = some u := hc0
 obtain rfl := k42_open hK
 exact ⟨ad, e, hc 0 _ rfl, by rw [← zea _ _ 1 (by omega)]; exact hc 1 _ rfl, by rw [← zea _ _ 2 (by omega)]; exact hc 2 _ rfl, by rw [← zea _ _ 3 (by omega)]; exact hc 3 _ rfl⟩
end Go.Proofs.Ytmfbcklaomigaaa.M
