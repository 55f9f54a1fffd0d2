-- Written by wip/tools/myprint.py, a program of this session, by way of the kit's print.
import Derived.Test.YteciomagemjjaaaProg
import Derived.Below
import Derived.Deep.Draws
import Derived.Deep.AppendLies
import Derived.Maps.AppendAt
import Derived.OwnWalk
import Derived.Laws.BytesArg
import Derived.Laws.MakeOwn
import Derived.Laws.OwnMore
import Derived.Deep.OwnRows
import Derived.Tactics
import Derived.Lib.ConvBytes
import Derived.Laws.Slices
import Derived.WalkKit
import Derived.KernelRfl
import Derived.RowKit3
import Derived.Deep.LoopGhost
import Derived.Deep.QuietTactic
import Derived.BigQuiet
import Derived.WideLaws
import Derived.Deep.DeepCutAuto
import Derived.Deep.CutBlock
import Derived.Deep.RegionHeld3
import Derived.Laws.Rows
import Derived.Lib.AppendStr
import Derived.ArgAppend
import Derived.Laws.IdiomCopy
import Derived.OrdersHeld
import Derived.Laws.BitsLemmas
import Derived.RowKit
import Derived.ChangeKeysEq
import Derived.Test.YteciomagemjjaaaWWords
import Derived.Test.YteciomagemjjaaaWLast
import Derived.Test.YteciomagemjjaaaWTab
import Derived.Test.YteciomagemjjaaaWApart
import Derived.Test.YteciomagemjjaaaWFoot
import Derived.Test.YteciomagemjjaaaWKept
import Derived.Test.YteciomagemjjaaaWShare
import Derived.Test.YteciomagemjjaaaWN
import Derived.Laws.StructEq
import Derived.Test.YteciomagemjjaaaWRepsOne
import Derived.Test.YteciomagemjjaaaWMore
namespace Go.Proofs.Yteciomagemjjaaa.J
open Go.RowKit Go.Proofs.YteciomagemjjaaaW.PrintWords Go.Proofs.YteciomagemjjaaaW.PrintLast Go.Proofs.YteciomagemjjaaaW.PrintMore
attribute [local go_sem] zna zpa zua zva zia zja zqa zoa   -- for this text's walks alone
set_option linter.unusedVariables false
set_option linter.unusedSimpArgs false



theorem zce {P : Program} {w : World} {d : Nat} {e : TypeId} {c : Nat} {xs ys : Array Value} {i : Nat} {is : List Nat} {a b : Value} {r s : Bool} (ha : (part e xs (i * c)).run P w = .ok a w) (hb : (part e ys (i * c)).run P w = .ok b w) (he : (Op.equalIn d e a b).run P w = .ok r w) (hr : (Op.eqItems d e c xs ys is).run P w = .ok s w) :
  (Op.eqItems d e c xs ys (i :: is)).run P w = .ok (r && s) w := by
 simp only [Op.eqItems, Sem.run_bind, ha, hb, he, Result.andThen_ok]
 cases r
 ·simp
 simpa using hr
theorem eqi_last {P : Program} {w : World} {d : Nat} {e : TypeId} {c : Nat} {xs ys : Array Value} {i : Nat} {a b : Value} {r : Bool} (ha : (part e xs (i * c)).run P w = .ok a w) (hb : (part e ys (i * c)).run P w = .ok b w) (he : (Op.equalIn d e a b).run P w = .ok r w) :
  (Op.eqItems d e c xs ys [i]).run P w = .ok r w := by
 have h := zce (is := []) (s := true) ha hb he (by simp [Op.eqItems])
 rwa [Bool.and_true] at h
def zlb {α : Type} (j i : Int) (a b : α) : α := if j = i then a else b
def errW : Option Int → Value
 | none => .nilIface
 | some c => .iface 0 (.int .i64 c)
theorem zj : errW none = .nilIface := rfl
theorem zk (c : Int) : errW (some c) = .iface 0 (.int .i64 c) := rfl

theorem info25 : (Try.prog.info? 25).map (fun i => (i.zero, i.size, i.bytes)) = some (some (.int .i16 0), 1, 2) := by kernel_rfl
theorem zqe : (Try.prog.info? 80).map (fun i => (i.zero, i.size, i.bytes)) = some (some (.agg #[(.int .i8 0), (.int .i8 0), (.int .i8 0)]), 3, 3) := by kernel_rfl
theorem info82 : (Try.prog.info? 82).map (fun i => (i.zero, i.size, i.bytes)) = some (some (.agg #[(.int .i16 0), (.int .i16 0), (.int .i16 0), (.int .i16 0), (.int .i64 0), (.int .i8 0), (.int .i8 0), (.int .i8 0), (.int .i64 0)]), 9, 32) := by kernel_rfl
-- the values' own types
/-! #### struct type 80 -/
structure S80 where
 f0 : Int
 f1 : Int
 f2 : Int
def z80 : S80 := ⟨(0 : Int), (0 : Int), (0 : Int)⟩
def k80 : Kd S80 := Kd.iso (Kd.pair (Kd.int .i8) (Kd.pair (Kd.int .i8) (Kd.int .i8))) (fun x : S80 => (x.f0, x.f1, x.f2))
theorem k80_open {w : World} {x : S80} {cs : List Value} (h : k80.K w x cs) : cs = [.int .i8 x.f0, .int .i8 x.f1, .int .i8 x.f2] := by
 obtain ⟨_, _, rfl, rfl, ⟨_, _, rfl, rfl, rfl⟩⟩ := h
 exact rfl
theorem zle {w : World} {base : Nat} {ok : Nat → Prop} {x : S80} {cs : List Value} (h : k80.M w base ok x cs) : cs = [.int .i8 x.f0, .int .i8 x.f1, .int .i8 x.f2] := by
 obtain ⟨_, _, rfl, rfl, ⟨_, _, rfl, rfl, rfl⟩⟩ := h
 exact rfl
theorem k80_mk (w : World) (x : S80)  : k80.K w x [.int .i8 x.f0, .int .i8 x.f1, .int .i8 x.f2] := ⟨[.int .i8 x.f0], [.int .i8 x.f1, .int .i8 x.f2], rfl, rfl, ⟨[.int .i8 x.f1], [.int .i8 x.f2], rfl, rfl, rfl⟩⟩
theorem zhc (w : World) (base : Nat) (ok : Nat → Prop) (x : S80)  : k80.M w base ok x [.int .i8 x.f0, .int .i8 x.f1, .int .i8 x.f2] := ⟨[.int .i8 x.f0], [.int .i8 x.f1, .int .i8 x.f2], rfl, rfl, ⟨[.int .i8 x.f1], [.int .i8 x.f2], rfl, rfl, rfl⟩⟩
def zi (xs : List S80) (i : Int) : S80 := xs.getD i.toNat z80
theorem at_T80 {w : World} {A : Option Addr} {n : Nat} {xs : List S80} (h : Kd.C k80 w A n xs) (i : Int) (h0 : 0 ≤ i) (h1 : i < n) : ∃ ad , A = some ad ∧ w.cell? (ad.add (i.toNat * 3)) = some (.int .i8 (zi xs i).f0) ∧ w.cell? ⟨(ad.add (i.toNat * 3)).block, (ad.add (i.toNat * 3)).off + 1, none⟩ = some (.int .i8 (zi xs i).f1) ∧ w.cell? ⟨(ad.add (i.toNat * 3)).block, (ad.add (i.toNat * 3)).off + 2, none⟩ = some (.int .i8 (zi xs i).f2) := by
 obtain ⟨ad, c, e, _, hK, hc0⟩ := Kd.C_get h z80 i h0 h1
 have hc : ∀ j u, c[j]? = some u → w.cell? (ad.add (i.toNat * 3 + j)) = some u := hc0
 obtain rfl := k80_open hK
 exact ⟨ad, e, hc 0 _ rfl, by rw [← zxa _ _ 1 (by omega)]; exact hc 1 _ rfl, by rw [← zxa _ _ 2 (by omega)]; exact hc 2 _ rfl⟩

/-! #### struct type 27 -/
structure S27 where
 f0 : Int
 f1 : Int
 f2 : Int
 f3 : Int
def z27 : S27 := ⟨(0 : Int), (0 : Int), (0 : Int), (0 : Int)⟩
def k27 : Kd S27 := Kd.iso (Kd.pair (Kd.int .i16) (Kd.pair (Kd.int .i16) (Kd.pair (Kd.int .i16) (Kd.int .i16)))) (fun x : S27 => (x.f0, x.f1, x.f2, x.f3))
theorem k27_open {w : World} {x : S27} {cs : List Value} (h : k27.K w x cs) : cs = [.int .i16 x.f0, .int .i16 x.f1, .int .i16 x.f2, .int .i16 x.f3] := by
 obtain ⟨_, _, rfl, rfl, ⟨_, _, rfl, rfl, ⟨_, _, rfl, rfl, rfl⟩⟩⟩ := h
 exact rfl
theorem k27_openM {w : World} {base : Nat} {ok : Nat → Prop} {x : S27} {cs : List Value} (h : k27.M w base ok x cs) : cs = [.int .i16 x.f0, .int .i16 x.f1, .int .i16 x.f2, .int .i16 x.f3] := by
 obtain ⟨_, _, rfl, rfl, ⟨_, _, rfl, rfl, ⟨_, _, rfl, rfl, rfl⟩⟩⟩ := h
 exact rfl
theorem k27_mk (w : World) (x : S27)  : k27.K w x [.int .i16 x.f0, .int .i16 x.f1, .int .i16 x.f2, .int .i16 x.f3] := ⟨[.int .i16 x.f0], [.int .i16 x.f1, .int .i16 x.f2, .int .i16 x.f3], rfl, rfl, ⟨[.int .i16 x.f1], [.int .i16 x.f2, .int .i16 x.f3], rfl, rfl, ⟨[.int .i16 x.f2], [.int .i16 x.f3], rfl, rfl, rfl⟩⟩⟩
theorem k27_mkM (w : World) (base : Nat) (ok : Nat → Prop) (x : S27)  : k27.M w base ok x [.int .i16 x.f0, .int .i16 x.f1, .int .i16 x.f2, .int .i16 x.f3] := ⟨[.int .i16 x.f0], [.int .i16 x.f1, .int .i16 x.f2, .int .i16 x.f3], rfl, rfl, ⟨[.int .i16 x.f1], [.int .i16 x.f2, .int .i16 x.f3], rfl, rfl, ⟨[.int .i16 x.f2], [.int .i16 x.f3], rfl, rfl, rfl⟩⟩⟩
def rd_T27 (xs : List S27) (i : Int) : S27 := xs.getD i.toNat z27
theorem at_T27 {w : World} {A : Option Addr} {n : Nat} {xs : List S27} (h : Kd.C k27 w A n xs) (i : Int) (h0 : 0 ≤ i) (h1 : i < n) : ∃ ad , A = some ad ∧ w.cell? (ad.add (i.toNat * 4)) = some (.int .i16 (rd_T27 xs i).f0) ∧ w.cell? ⟨(ad.add (i.toNat * 4)).block, (ad.add (i.toNat * 4)).off + 1, none⟩ = some (.int .i16 (rd_T27 xs i).f1) ∧ w.cell? ⟨(ad.add (i.toNat * 4)).block, (ad.add (i.toNat * 4)).off + 2, none⟩ = some (.int .i16 (rd_T27 xs i).f2) ∧ w.cell? ⟨(ad.add (i.toNat * 4)).block, (ad.add (i.toNat * 4)).off + 3, none⟩ = some (.int .i16 (rd_T27 xs i).f3) := by
 obtain ⟨ad, c, e, _, hK, hc0⟩ := Kd.C_get h z27 i h0 h1
 have hc : ∀ j u, c[j]? = some u → w.cell? (ad.add (i.toNat * 4 + j)) = some u := hc0
 obtain rfl := k27_open hK
 exact ⟨ad, e, hc 0 _ rfl, by rw [← zxa _ _ 1 (by omega)]; exact hc 1 _ rfl, by rw [← zxa _ _ 2 (by omega)]; exact hc 2 _ rfl, by rw [← zxa _ _ 3 (by omega)]; exact hc 3 _ rfl⟩

/-! #### struct type 82 -/
structure S82 where
 f0 : S27
 f1 : Int
 f2 : S80
 f3 : Int
def z82 : S82 := ⟨z27, (0 : Int), z80, (0 : Int)⟩
def k82 : Kd S82 := Kd.iso (Kd.pair k27 (Kd.pair (Kd.int .i64) (Kd.pair k80 (Kd.int .i64)))) (fun x : S82 => (x.f0, x.f1, x.f2, x.f3))
theorem k82_open {w : World} {x : S82} {cs : List Value} (h : k82.K w x cs) : cs = [.int .i16 x.f0.f0, .int .i16 x.f0.f1, .int .i16 x.f0.f2, .int .i16 x.f0.f3, .int .i64 x.f1, .int .i8 x.f2.f0, .int .i8 x.f2.f1, .int .i8 x.f2.f2, .int .i64 x.f3] := by
 obtain ⟨_, _, rfl, s0, ⟨_, _, rfl, rfl, ⟨_, _, rfl, s5, rfl⟩⟩⟩ := h
 obtain rfl := k27_open s0
 obtain rfl := k80_open s5
 exact rfl
theorem k82_openM {w : World} {base : Nat} {ok : Nat → Prop} {x : S82} {cs : List Value} (h : k82.M w base ok x cs) : cs = [.int .i16 x.f0.f0, .int .i16 x.f0.f1, .int .i16 x.f0.f2, .int .i16 x.f0.f3, .int .i64 x.f1, .int .i8 x.f2.f0, .int .i8 x.f2.f1, .int .i8 x.f2.f2, .int .i64 x.f3] := by
 obtain ⟨_, _, rfl, s0, ⟨_, _, rfl, rfl, ⟨_, _, rfl, s5, rfl⟩⟩⟩ := h
 obtain rfl := k27_openM s0
 obtain rfl := zle s5
 exact rfl
theorem k82_mk (w : World) (x : S82)  : k82.K w x [.int .i16 x.f0.f0, .int .i16 x.f0.f1, .int .i16 x.f0.f2, .int .i16 x.f0.f3, .int .i64 x.f1, .int .i8 x.f2.f0, .int .i8 x.f2.f1, .int .i8 x.f2.f2, .int .i64 x.f3] := ⟨[.int .i16 x.f0.f0, .int .i16 x.f0.f1, .int .i16 x.f0.f2, .int .i16 x.f0.f3], [.int .i64 x.f1, .int .i8 x.f2.f0, .int .i8 x.f2.f1, .int .i8 x.f2.f2, .int .i64 x.f3], rfl, (k27_mk w x.f0 ), ⟨[.int .i64 x.f1], [.int .i8 x.f2.f0, .int .i8 x.f2.f1, .int .i8 x.f2.f2, .int .i64 x.f3], rfl, rfl, ⟨[.int .i8 x.f2.f0, .int .i8 x.f2.f1, .int .i8 x.f2.f2], [.int .i64 x.f3], rfl, (k80_mk w x.f2 ), rfl⟩⟩⟩
theorem k82_mkM (w : World) (base : Nat) (ok : Nat → Prop) (x : S82)  : k82.M w base ok x [.int .i16 x.f0.f0, .int .i16 x.f0.f1, .int .i16 x.f0.f2, .int .i16 x.f0.f3, .int .i64 x.f1, .int .i8 x.f2.f0, .int .i8 x.f2.f1, .int .i8 x.f2.f2, .int .i64 x.f3] := ⟨[.int .i16 x.f0.f0, .int .i16 x.f0.f1, .int .i16 x.f0.f2, .int .i16 x.f0.f3], [.int .i64 x.f1, .int .i8 x.f2.f0, .int .i8 x.f2.f1, .int .i8 x.f2.f2, .int .i64 x.f3], rfl, (k27_mkM w base ok x.f0 ), ⟨[.int .i64 x.f1], [.int .i8 x.f2.f0, .int .i8 x.f2.f1, .int .i8 x.f2.f2, .int .i64 x.f3], rfl, rfl, ⟨[.int .i8 x.f2.f0, .int .i8 x.f2.f1, .int .i8 x.f2.f2], [.int .i64 x.f3], rfl, (zhc w base ok x.f2 ), rfl⟩⟩⟩
def zl (xs : List S82) (i : Int) : S82 := xs.getD i.toNat z82
theorem at_T82 {w : World} {A : Option Addr} {n : Nat} {xs : List S82} (h : Kd.C k82 w A n xs) (i : Int) (h0 : 0 ≤ i) (h1 : i < n) : ∃ ad , A = some ad ∧ w.cell? (ad.add (i.toNat * 9)) = some (.int .i16 (zl xs i).f0.f0) ∧ w.cell? ⟨(ad.add (i.toNat * 9)).block, (ad.add (i.toNat * 9)).off + 1, none⟩ = some (.int .i16 (zl xs i).f0.f1) ∧ w.cell? ⟨(ad.add (i.toNat * 9)).block, (ad.add (i.toNat * 9)).off + 2, none⟩ = some (.int .i16 (zl xs i).f0.f2) ∧ w.cell? ⟨(ad.add (i.toNat * 9)).block, (ad.add (i.toNat * 9)).off + 3, none⟩ = some (.int .i16 (zl xs i).f0.f3) ∧ w.cell? ⟨(ad.add (i.toNat * 9)).block, (ad.add (i.toNat * 9)).off + 4, none⟩ = some (.int .i64 (zl xs i).f1) ∧ w.cell? ⟨(ad.add (i.toNat * 9)).block, (ad.add (i.toNat * 9)).off + 5, none⟩ = some (.int .i8 (zl xs i).f2.f0) ∧ w.cell? ⟨(ad.add (i.toNat * 9)).block, (ad.add (i.toNat * 9)).off + 6, none⟩ = some (.int .i8 (zl xs i).f2.f1) ∧ w.cell? ⟨(ad.add (i.toNat * 9)).block, (ad.add (i.toNat * 9)).off + 7, none⟩ = some (.int .i8 (zl xs i).f2.f2) ∧ w.cell? ⟨(ad.add (i.toNat * 9)).block, (ad.add (i.toNat * 9)).off + 8, none⟩ = some (.int .i64 (zl xs i).f3) := by
 obtain ⟨ad, c, e, _, hK, hc0⟩ := Kd.C_get h z82 i h0 h1
 have hc : ∀ j u, c[j]? = some u → w.cell? (ad.add (i.toNat * 9 + j)) = some u := hc0
 obtain rfl := k82_open hK
 exact ⟨ad, e, hc 0 _ rfl, by rw [← zxa _ _ 1 (by omega)]; exact hc 1 _ rfl, by rw [← zxa _ _ 2 (by omega)]; exact hc 2 _ rfl, by rw [← zxa _ _ 3 (by omega)]; exact hc 3 _ rfl, by rw [← zxa _ _ 4 (by omega)]; exact hc 4 _ rfl, by rw [← zxa _ _ 5 (by omega)]; exact hc 5 _ rfl, by rw [← zxa _ _ 6 (by omega)]; exact hc 6 _ rfl, by rw [← zxa _ _ 7 (by omega)]; exact hc 7 _ rfl, by rw [← zxa _ _ 8 (by omega)]; exact hc 8 _ rfl⟩

end Go.Proofs.Yteciomagemjjaaa.J
