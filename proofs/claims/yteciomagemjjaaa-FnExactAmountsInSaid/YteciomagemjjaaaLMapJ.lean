/- Words for the map of the waters met: it reads as the waters of the queue; the laws at the operations. -/
import Derived.Test.YteciomagemjjaaaJx0
import Derived.Test.YteciomagemjjaaaWLast
import Derived.Maps.RangeWalk
import Derived.Maps.OwnSet
import Derived.DeepKeys4
namespace Go.Proofs.Yteciomagemjjaaa.J
open Go.RowKit Go.Maps Go.Proofs.YteciomagemjjaaaW.PrintWords Go.Proofs.YteciomagemjjaaaW.PrintLast Go.Proofs.YteciomagemjjaaaW.PrintMore
set_option linter.unusedVariables false
set_option linter.unusedSimpArgs false
theorem under123 : Try.prog.underlying 123 = some (.map 27 4) := by kernel_rfl
theorem under25 : Try.prog.underlying 25 = some (.int .i16) := by kernel_rfl
theorem cells25 : Try.prog.cellsOf 25 = 1 := by kernel_rfl
theorem cells27 : Try.prog.cellsOf 27 = 4 := by kernel_rfl
theorem keyType27 : Try.prog.keyType 27 = true := by kernel_rfl
theorem key27 : Keyed Try.prog 27 := Keyed.of_law (deep_law_laid (m := 5) (by kernel_rfl) (by omega) (Nat.le_of_ble_eq_true (by kernel_rfl)) (by kernel_rfl) (by kernel_rfl))
def wVal (x : S27) : Value := .agg #[.int .i16 x.f0, .int .i16 x.f1, .int .i16 x.f2, .int .i16 x.f3]
def wf16 (a : Int) : Prop := -32768 ≤ a ∧ a < 32768
instance (a : Int) : Decidable (wf16 a) := inferInstanceAs (Decidable (_ ∧ _))
def wfW (x : S27) : Prop := wf16 x.f0 ∧ wf16 x.f1 ∧ wf16 x.f2 ∧ wf16 x.f3
instance (x : S27) : Decidable (wfW x) := inferInstanceAs (Decidable (_ ∧ _))
def lW (x : S27) : List Lit := [.int .i16 x.f0, .int .i16 x.f1, .int .i16 x.f2, .int .i16 x.f3]
def kW (x : S27) : Lit := .string (keyBytes (lW x))
theorem wf16_lit {a : Int} (h : wf16 a) : (Lit.int .i16 a).wf = true := by
  unfold wf16 at h
  simp [Lit.wf, IntKind.min, IntKind.max, IntKind.bits, IntKind.signed]
  omega
theorem kl25 (d : Nat) {a : Int} (h : wf16 a) : Try.prog.keyLits (d + 1) 25 [.int .i16 a] = some [.int .i16 a] := by
  unfold Program.keyLits
  rw [under25]
  simp only [wf16_lit h, and_self, if_true]
theorem kl27 (d : Nat) {x : S27} (h : wfW x) : Try.prog.keyLits (d + 2) 27 [.int .i16 x.f0, .int .i16 x.f1, .int .i16 x.f2, .int .i16 x.f3] = some (lW x) := by
  unfold Program.keyLits
  rw [Try.underlying27]
  simp only [cells27, cells25]
  rw [if_pos (by rfl), show List.range 4 = [0, 1, 2, 3] from rfl]
  simp only [List.mapM_cons, List.mapM_nil, List.drop, List.take, Nat.mul_one, Nat.zero_mul, kl25 d h.1, kl25 d h.2.1, kl25 d h.2.2.1, kl25 d h.2.2.2]
  rfl
theorem zge {x : S27} (h : wfW x) : keyOf Try.prog 27 (wVal x) = some (kW x) := by
  have hf : (wVal x).formed Try.prog 27 = true := by
    unfold wVal Value.formed
    rw [Try.underlying27]
    simp only [cells27]
    rfl
  unfold keyOf
  rw [Try.underlying27]
  simp only [keyType27, hf, Bool.and_self, if_true]
  obtain ⟨m, hm⟩ : ∃ m, Try.prog.types.size = m + 1 := ⟨Try.prog.types.size - 1, by have : 27 < Try.prog.types.size := Nat.le_of_ble_eq_true (by kernel_rfl); omega⟩
  rw [hm]
  show Option.map _ (Try.prog.keyLits (m + 2) 27 [.int .i16 x.f0, .int .i16 x.f1, .int .i16 x.f2, .int .i16 x.f3]) = _
  rw [kl27 m h]
  rfl
theorem kW_inj {x y : S27} (hx : wfW x) (hy : wfW y) (h : kW x = kW y) : x = y := by
  have e := key27.inj (zge hx) (by rw [h]; exact zge hy)
  obtain ⟨x0, x1, x2, x3⟩ := x
  obtain ⟨y0, y1, y2, y3⟩ := y
  simp [wVal] at e
  obtain ⟨rfl, rfl, rfl, rfl⟩ := e
  rfl
/-- Is a water in the queue? -/
def inQ (q : List S82) (x : S27) : Bool := q.any fun e => decide (e.f0.f0 = x.f0 ∧ e.f0.f1 = x.f1 ∧ e.f0.f2 = x.f2 ∧ e.f0.f3 = x.f3)
theorem inQ_app (q : List S82) (e : S82) (x : S27) : inQ (q ++ [e]) x = (inQ q x || decide (e.f0.f0 = x.f0 ∧ e.f0.f1 = x.f1 ∧ e.f0.f2 = x.f2 ∧ e.f0.f3 = x.f3)) := by
  simp [inQ, List.any_append]
def RB : Value → Option (DataW Unit × List MemPlace)
  | .bool b => some (.lit (.bool b), [])
  | _ => none
theorem RB_inv {v : Value} {b : Bool} {ps : List MemPlace} (h : RB v = some (.lit (.bool b), ps)) : v = .bool b := by
  unfold RB at h
  split at h
  · rename_i c
    simp at h
    rw [h.1]
  · cases h
/-- The map reads as the waters of q. -/
def Reads (D : DataW Unit) (q : List S82) : Prop := IsMap D ∧ ∀ x, wfW x → ∀ zd, D.atKey (kW x) zd = if inQ q x = true then .lit (.bool true) else zd
theorem isKeyW (x : S27) : WideAt.IsKeyLit (kW x) := trivial
theorem reads_empty : Reads (.map []) [] := ⟨isMap_empty, fun _ _ _ => rfl⟩
theorem Reads.put {D : DataW Unit} {q : List S82} (h : Reads D q) (e : S82) (hw : wfW e.f0) : Reads (D.put (kW e.f0) (.lit (.bool true))) (q ++ [e]) := by
  refine ⟨h.1.put _ _, fun y hy zd => ?_⟩
  rw [inQ_app]
  by_cases he : e.f0 = y
  · subst he
    rw [atKey_put_same h.1 (isKeyW e.f0)]
    simp
  · have hne : ¬ (e.f0.f0 = y.f0 ∧ e.f0.f1 = y.f1 ∧ e.f0.f2 = y.f2 ∧ e.f0.f3 = y.f3) := by
      intro hh
      apply he
      cases hq : e.f0
      cases y
      simp [hq] at hh
      simp [hh]
    rw [atKey_put_other (fun hh => he (kW_inj hy hw hh).symm), h.2 y hy, decide_eq_false hne, Bool.or_false]
/-- Block b is a map that reads as the waters of q. -/
def IsM (w : World) (b : Nat) (q : List S82) : Prop := ∃ D, w.ownsMap Try.prog 27 RB b q.length D ∧ Reads D q
theorem zero4 (w : World) : (zeroValue 4).run Try.prog w = .ok (.bool false) w := by kernel_rfl
section
variable {ops : Array Oper} {rest : List Oper} {o : Oper} {a : Act} {Q : Exit → Act → World → Prop} {w : World}
theorem look_ (hg : o.guard = none) (m x : Operand) (hop : o.op = Op.lookup 123 m x false) {b : Nat} {q : List S82} (hm : a.eval m = .map (some b)) (h : IsM w b q) {k : S27} (hx : a.eval x = wVal k) (hw : wfW k)
    (hK : wpList Try.prog ops Q rest (a.put o.dst (.bool (inQ q k))) w) : wpList Try.prog ops Q (o :: rest) a w := by
  obtain ⟨D, ho, hR⟩ := h
  refine wpList_plain hg fun K' hK' => ?_
  obtain ⟨v, ps, hrun, hv⟩ := ho.lookup key27 under123 (zero4 w) (zd := .lit (.bool false)) (zp := []) rfl (zge hw)
  rw [hR.2 k hw] at hv
  have hv' : v = .bool (inQ q k) := by
    apply RB_inv (ps := ps)
    rw [hv]
    cases inQ q k <;> rfl
  subst hv'
  unfold Oper.wp
  simp [execOp, hop, hm, hx, hrun, Result.andThen]
  exact hK' _ _ hK
theorem put_ (hg : o.guard = none) (m x v : Operand) (hop : o.op = Op.mapUpdate 123 m x v) {b : Nat} {q : List S82} (hm : a.eval m = .map (some b)) (h : IsM w b q) (hn : q.length < maxLen) {e : S82} (hx : a.eval x = wVal e.f0) (hw : wfW e.f0) (hv : a.eval v = .bool true)
    (hK : ∀ w', IsM w' b (q ++ [e]) → w.grownBy w' (some b) → wpList Try.prog ops Q rest (a.put o.dst undef) w') : wpList Try.prog ops Q (o :: rest) a w := by
  obtain ⟨D, ho, hR⟩ := h
  refine wpList_plain hg fun K' hK' => ?_
  obtain ⟨w', hrun, r1, r2⟩ := ho.update key27 under123 hn (zge hw) (show RB (.bool true) = some (.lit (.bool true), []) from rfl)
  unfold Oper.wp
  simp [execOp, hop, hm, hx, hv, hrun, Result.andThen]
  exact hK' _ _ (hK w' ⟨_, by simpa using r1, hR.put e hw⟩ r2)
theorem step_made {K : Act → World → Prop} {E : Prop} (hg : o.guard = none) (hop : o.op = Op.makeMap 123 none)
    (hK : IsM (w.alloc (.map #[] 0)) w.heap.size [] → K (a.put o.dst (.map (some w.heap.size))) (w.alloc (.map #[] 0))) : if Region.wanted o (yielded ops a.tmps) = true then Oper.wp Try.prog o a w K Q else E := by
  have hw' : Region.wanted o (yielded ops a.tmps) = true := by simp [Region.wanted, hg]
  rw [if_pos hw']
  unfold Oper.wp
  simp [execOp, hop, run_makeMap, Result.andThen]
  exact hK ⟨_, World.ownsMap_made w Try.prog 27 RB, reads_empty⟩
theorem zyc {K : Act → World → Prop} {E : Prop} (hg : o.guard = none) (m x v : Operand) (hop : o.op = Op.insert 123 m x v) {b : Nat} {q : List S82} (hm : a.eval m = .map (some b)) (h : IsM w b q) (hn : q.length < maxLen) {e : S82} (hx : a.eval x = wVal e.f0) (hw : wfW e.f0) (hv : a.eval v = .bool true)
    (hK : ∀ w', IsM w' b (q ++ [e]) → w.grownBy w' (some b) → K (a.put o.dst undef) w') : if Region.wanted o (yielded ops a.tmps) = true then Oper.wp Try.prog o a w K Q else E := by
  obtain ⟨D, ho, hR⟩ := h
  have hw' : Region.wanted o (yielded ops a.tmps) = true := by simp [Region.wanted, hg]
  rw [if_pos hw']
  obtain ⟨w', hrun, r1, r2⟩ := ho.update key27 under123 hn (zge hw) (show RB (.bool true) = some (.lit (.bool true), []) from rfl)
  unfold Oper.wp
  simp [execOp, hop, hm, hx, hv, hrun, Result.andThen]
  exact hK w' ⟨_, by simpa using r1, hR.put e hw⟩ r2
end
theorem IsM.kept {w w' : World} {b : Nat} {q : List S82} {row : Option Nat} (h : IsM w b q) (hg : w.grownBy w' row) (hne : some b ≠ row) : IsM w' b q := by
  obtain ⟨D, ho, hR⟩ := h
  exact ⟨D, ho.kept hg hne, hR⟩
theorem IsM.alloc {w : World} {b : Nat} {q : List S82} (h : IsM w b q) (o : Obj) : IsM (w.alloc o) b q := h.kept (World.grownBy_alloc w o none) (by simp)
theorem IsM.drew {w : World} {b : Nat} {q : List S82} (h : IsM w b q) : IsM w.drew b q := h
theorem IsM.drewN {w : World} {b : Nat} {q : List S82} (h : IsM w b q) (n : Nat) : IsM (w.drewN n) b q := h
theorem IsM.lt {w : World} {b : Nat} {q : List S82} (h : IsM w b q) : b < w.heap.size := by
  obtain ⟨D, ho, hR⟩ := h
  exact ho.lt
theorem IsM.below {w w' : World} {b : Nat} {q : List S82} (h : IsM w b q) (hb : Below w.heap.size w w') : IsM w' b q := by
  obtain ⟨D, ⟨es, clock, hc, F, hs, hD⟩, hR⟩ := h
  exact ⟨D, ⟨es, clock, zca hc hb, F, hs, hD⟩, hR⟩
/-- What the entries of a map read as, without a world. -/
def MF (es : Array MapEntry) (mc : Nat) (q : List S82) : Prop := ∀ (w : World) (b : Nat), w.heap[b]? = some (.map es mc) → IsM w b q
theorem isM_open {w : World} {b : Nat} {q : List S82} (h : IsM w b q) : ∃ es mc, w.heap[b]? = some (.map es mc) ∧ MF es mc q := by
  obtain ⟨D, ⟨es, mc, hb, F, hs, hD⟩, hR⟩ := h
  exact ⟨es, mc, hb, fun w' b' hb' => ⟨D, ⟨es, mc, hb', F, hs, hD⟩, hR⟩⟩
theorem zka {w : World} {g : Nat} {o : Obj} (h : w.heap[g]? = some o) {p : Addr} (hp : g ≠ p.block) (u : Value) : (w.setCell p u).heap[g]? = some o := (Below.heap_setCell w p u g hp).trans h
section
variable {α : Type} {d : Kd α} {e : Nat} {w w1 : World} {base g mc : Nat} {es : Array MapEntry} {ok : Nat → Prop} {v : Value} {xs : List α}
theorem R_map (h : Kd.R d e w base ok v xs) (hm : w.heap[g]? = some (.map es mc)) (hg : w.grownBy w1 (some g)) : Kd.R d e w1 base ok v xs := by
  refine Kd.R_mono (Kd.R_grown (Kd.R_bound h) hg (fun k hk he => ?_)) (fun _ hk => hk.1)
  obtain ⟨_, _, _, q, hq, cells, hc⟩ := hk
  injection he with he
  subst he
  rw [hc] at hm
  cases hm
theorem R_isM {q : List S82} (h : Kd.R d e w base ok v xs) (hm : IsM w g q) (hg : w.grownBy w1 (some g)) : Kd.R d e w1 base ok v xs := by
  obtain ⟨es, mc, hb, _⟩ := isM_open hm
  exact R_map h hb hg
theorem R_neM (h : Kd.R d e w base ok v xs) (hm : w.heap[g]? = some (.map es mc)) : some g ≠ v.ownBlock := by
  intro he
  obtain ⟨cells, hc⟩ := Kd.R_typed h g he.symm
  rw [hc] at hm
  cases hm
end
theorem zqd {a b : Nat} (h : a ≠ b) : some a ≠ some b := fun e => h (by injection e)
end Go.Proofs.Yteciomagemjjaaa.J
