-- Written by wip/find/mk.py, a program of this session.
import Derived.Test.YtgcbhknpfpgffaaLFinC
import Derived.Test.YtgcbhknpfpgffaaWLast
import Derived.Maps.RangeWalk
import Derived.Maps.OwnSet
import Derived.DeepKeys4
namespace Go.Proofs.Ytgcbhknpfpgffaa.C
open Go.RowKit Go.Maps Go.Proofs.YtgcbhknpfpgffaaW.PrintWords Go.Proofs.YtgcbhknpfpgffaaW.PrintLast Go.Proofs.YtgcbhknpfpgffaaW.PrintMore
set_option linter.unusedVariables false
set_option linter.unusedSimpArgs false

theorem cells2 : Try.prog.cellsOf 2 = 1 := by kernel_rfl
theorem cells25 : Try.prog.cellsOf 25 = 4 := by kernel_rfl
theorem cells49 : Try.prog.cellsOf 49 = 5 := by kernel_rfl
theorem keyType49 : Try.prog.keyType 49 = true := by kernel_rfl
theorem zaf : Try.prog.underlying 33 = some (.map 49 4) := by kernel_rfl
theorem key49 : Keyed Try.prog 49 := Keyed.of_law (deep_law_laid (m := 6) (by kernel_rfl) (by omega) (Nat.le_of_ble_eq_true (by kernel_rfl)) (by kernel_rfl) (by kernel_rfl))
abbrev K5 := Int × Int × Int × Int × Int
def kVal (x : K5) : Value := .agg #[.int .i64 x.1, .int .i64 x.2.1, .int .i64 x.2.2.1, .int .i64 x.2.2.2.1, .int .i64 x.2.2.2.2]
def wf64 (a : Int) : Prop := -9223372036854775808 ≤ a ∧ a < 9223372036854775808
instance (a : Int) : Decidable (wf64 a) := inferInstanceAs (Decidable (_ ∧ _))
def wfK (x : K5) : Prop := wf64 x.1 ∧ wf64 x.2.1 ∧ wf64 x.2.2.1 ∧ wf64 x.2.2.2.1 ∧ wf64 x.2.2.2.2
instance (x : K5) : Decidable (wfK x) := inferInstanceAs (Decidable (_ ∧ _))
def lK (x : K5) : List Lit := [.int .i64 x.1, .int .i64 x.2.1, .int .i64 x.2.2.1, .int .i64 x.2.2.2.1, .int .i64 x.2.2.2.2]
def kK (x : K5) : Lit := .string (keyBytes (lK x))
theorem wf64_lit {a : Int} (h : wf64 a) : (Lit.int .i64 a).wf = true := by
  unfold wf64 at h
  simp [Lit.wf, IntKind.min, IntKind.max, IntKind.bits, IntKind.signed]
  omega
theorem kl2 (d : Nat) {a : Int} (h : wf64 a) : Try.prog.keyLits (d + 1) 2 [.int .i64 a] = some [.int .i64 a] := by
  unfold Program.keyLits
  rw [Try.underlying2]
  simp only [wf64_lit h, and_self, if_true]
theorem kl25 (d : Nat) {a b c e : Int} (ha : wf64 a) (hb : wf64 b) (hc : wf64 c) (he : wf64 e) : Try.prog.keyLits (d + 2) 25 [.int .i64 a, .int .i64 b, .int .i64 c, .int .i64 e] = some [.int .i64 a, .int .i64 b, .int .i64 c, .int .i64 e] := by
  unfold Program.keyLits
  rw [Try.underlying25]
  simp only [cells25, cells2]
  rw [if_pos (by rfl), show List.range 4 = [0, 1, 2, 3] from rfl]
  simp only [List.mapM_cons, List.mapM_nil, List.drop, List.take, Nat.mul_one, Nat.zero_mul, kl2 d ha, kl2 d hb, kl2 d hc, kl2 d he]
  rfl
theorem kl49 (d : Nat) {x : K5} (h : wfK x) : Try.prog.keyLits (d + 3) 49 [.int .i64 x.1, .int .i64 x.2.1, .int .i64 x.2.2.1, .int .i64 x.2.2.2.1, .int .i64 x.2.2.2.2] = some (lK x) := by
  unfold Program.keyLits
  rw [Try.underlying49]
  simp only [cells49]
  rw [if_pos ⟨rfl, by decide +kernel⟩]
  simp only [List.mapM_cons, List.mapM_nil, cells25, cells2, List.drop, List.take, kl25 d h.1 h.2.1 h.2.2.1 h.2.2.2.1, kl2 (d + 1) h.2.2.2.2]
  rfl
theorem zgd {x : K5} (h : wfK x) : keyOf Try.prog 49 (kVal x) = some (kK x) := by
  have hf : (kVal x).formed Try.prog 49 = true := by
    unfold kVal Value.formed
    rw [Try.underlying49]
    simp only [cells49]
    rfl
  unfold keyOf
  rw [Try.underlying49]
  simp only [keyType49, hf, Bool.and_self, if_true]
  obtain ⟨m, hm⟩ : ∃ m, Try.prog.types.size = m + 2 := ⟨Try.prog.types.size - 2, by have : 49 < Try.prog.types.size := Nat.le_of_ble_eq_true (by kernel_rfl); omega⟩
  rw [hm]
  show Option.map _ (Try.prog.keyLits (m + 3) 49 [.int .i64 x.1, .int .i64 x.2.1, .int .i64 x.2.2.1, .int .i64 x.2.2.2.1, .int .i64 x.2.2.2.2]) = _
  rw [kl49 m h]
  rfl
theorem kK_inj {x y : K5} (hx : wfK x) (hy : wfK y) (h : kK x = kK y) : x = y := by
  have e := key49.inj (zgd hx) (by rw [h]; exact zgd hy)
  obtain ⟨x0, x1, x2, x3, x4⟩ := x
  obtain ⟨y0, y1, y2, y3, y4⟩ := y
  simp [kVal] at e
  obtain ⟨rfl, rfl, rfl, rfl, rfl⟩ := e
  rfl
/-- What is known: the latest first. -/
abbrev MS := List (K5 × Bool)
def kn : MS → K5 → Option Bool
  | [], _ => none
  | e :: q, x => if e.1 = x then some e.2 else kn q x
def RB : Value → Option (DataW Unit × List MemPlace)
  | .bool b => some (.lit (.bool b), [])
  | _ => none
theorem RB_inv {v : Value} {b : Bool} {ps : List MemPlace} (h : RB v = some (.lit (.bool b), ps)) : v = .bool b := by
  unfold RB at h
  split at h
  · rename_i c
    simp at h
    rw [h.1]
  · cases h
def hit (o : Option Bool) (zd : DataW Unit) : DataW Unit := match o with
  | some b => .lit (.bool b)
  | none => zd
def zwd (D : DataW Unit) (q : MS) : Prop := IsMap D ∧ ∀ x, wfK x → ∀ zd, D.atKey (kK x) zd = hit (kn q x) zd
theorem isKeyK (x : K5) : WideAt.IsKeyLit (kK x) := trivial
theorem zbe : zwd (.map []) [] := ⟨isMap_empty, fun _ _ _ => rfl⟩
theorem zwd.has {D : DataW Unit} {q : MS} (h : zwd D q) {x : K5} (hx : wfK x) : Maps.has D (kK x) = (kn q x).isSome := by
  cases e : kn q x with
  | none => exact has_false_of_atKey (fun z => by rw [h.2 x hx, e]; rfl)
  | some b => exact has_true_of_atKey (y := .lit (.bool b)) (fun z => by rw [h.2 x hx, e]; rfl)
theorem zwd.put {D : DataW Unit} {q : MS} (h : zwd D q) {x : K5} (b : Bool) (hw : wfK x) : zwd (D.put (kK x) (.lit (.bool b))) ((x, b) :: q) := by
  refine ⟨h.1.put _ _, fun y hy zd => ?_⟩
  unfold kn
  by_cases he : x = y
  · subst he
    rw [atKey_put_same h.1 (isKeyK x), if_pos rfl]; rfl
  · rw [atKey_put_other (fun hh => he (kK_inj hy hw hh).symm), h.2 y hy, if_neg he]
def IsM (w : World) (b : Nat) (q : MS) : Prop := ∃ D, w.ownsMap Try.prog 49 RB b q.length D ∧ zwd D q
theorem zero4 (w : World) : (zeroValue 4).run Try.prog w = .ok (.bool false) w := by kernel_rfl
section
variable {ops : Array Oper} {rest : List Oper} {o : Oper} {a : Act} {Q : Exit → Act → World → Prop} {w : World}
theorem zwe (hg : o.guard = none) (m x : Operand) (hop : o.op = Op.lookup 33 m x true) {b : Nat} {q : MS} (hm : a.eval m = .map (some b)) (h : IsM w b q) {k : K5} (hx : a.eval x = kVal k) (hw : wfK k)
    (hK : wpList Try.prog ops Q rest (a.put o.dst (.tuple #[.bool ((kn q k).getD false), .bool (kn q k).isSome])) w) : wpList Try.prog ops Q (o :: rest) a w := by
  obtain ⟨D, ho, hR⟩ := h
  refine wpList_lookup_own_ok w hg m x 33 hop 49 4 key49 zaf RB (zero4 w) (.lit (.bool false)) [] rfl b q.length D hm ho (kVal k) (kK k) hx (zgd hw) (fun v ps hv => ?_)
  rw [hR.2 k hw] at hv
  have hv' : v = .bool ((kn q k).getD false) := by
    apply RB_inv (ps := ps)
    rw [hv]
    cases kn q k <;> rfl
  subst hv'
  rw [hR.has hw]
  exact hK
theorem put_ (hg : o.guard = none) (m x v : Operand) (hop : o.op = Op.mapUpdate 33 m x v) {b : Nat} {q : MS} (hm : a.eval m = .map (some b)) (h : IsM w b q) (hn : q.length < maxLen) {k : K5} {c : Bool} (hx : a.eval x = kVal k) (hw : wfK k) (hv : a.eval v = .bool c)
    (hK : ∀ w', IsM w' b ((k, c) :: q) → w.grownBy w' (some b) → wpList Try.prog ops Q rest (a.put o.dst undef) w') : wpList Try.prog ops Q (o :: rest) a w := by
  obtain ⟨D, ho, hR⟩ := h
  refine wpList_plain hg fun K' hK' => ?_
  obtain ⟨w', hrun, r1, r2⟩ := ho.update key49 zaf hn (zgd hw) (show RB (.bool c) = some (.lit (.bool c), []) from rfl)
  unfold Oper.wp
  simp [execOp, hop, hm, hx, hv, hrun, Result.andThen]
  exact hK' _ _ (hK w' ⟨_, by simpa using r1, hR.put c hw⟩ r2)
theorem made_ (hg : o.guard = none) (hop : o.op = Op.makeMap 33 none)
    (hK : ∀ b w', b = w.heap.size → IsM w' b [] → Below w.heap.size w w' → wpList Try.prog ops Q rest (a.put o.dst (.map (some b))) w') : wpList Try.prog ops Q (o :: rest) a w := by
  refine wpList_plain hg fun K' hK' => ?_
  unfold Oper.wp
  simp [execOp, hop, run_makeMap, Result.andThen]
  exact hK' _ _ (hK _ (w.alloc (.map #[] 0)) rfl ⟨_, World.ownsMap_made w Try.prog 49 RB, zbe⟩ (zq (Below.refl _ _) _))
end
theorem IsM.kept {w w' : World} {b : Nat} {q : MS} {row : Option Nat} (h : IsM w b q) (hg : w.grownBy w' row) (hne : some b ≠ row) : IsM w' b q := by
  obtain ⟨D, ho, hR⟩ := h
  exact ⟨D, ho.kept hg hne, hR⟩
theorem IsM.lt {w : World} {b : Nat} {q : MS} (h : IsM w b q) : b < w.heap.size := by
  obtain ⟨D, ho, hR⟩ := h
  exact ho.lt
theorem IsM.below {w w' : World} {b : Nat} {q : MS} (h : IsM w b q) (hb : Below w.heap.size w w') : IsM w' b q := by
  obtain ⟨D, ⟨es, clock, hc, F, hs, hD⟩, hR⟩ := h
  exact ⟨D, ⟨es, clock, zz hc hb, F, hs, hD⟩, hR⟩
theorem IsM.far {w : World} {b : Nat} {q : MS} (h : IsM w b q) {a : Addr} (ha : b ≠ a.block) (u : Value) : IsM (w.setCell a u) b q := by
  obtain ⟨D, ⟨es, clock, hc, F, hs, hD⟩, hR⟩ := h
  exact ⟨D, ⟨es, clock, zcc hc ha u, F, hs, hD⟩, hR⟩
/-- The map behind a searcher, and the box that holds a copy of it. -/
def IsB (w0 W : World) (g : Nat) (q : MS) : Prop := w0.heap.size ≤ g ∧ IsM W g q
theorem IsB.below {w0 W W1 : World} {g : Nat} {q : MS} (h : IsB w0 W g q) (hb : Below W.heap.size W W1) : IsB w0 W1 g q := ⟨h.1, h.2.below hb⟩
theorem IsB.lt {w0 W : World} {g : Nat} {q : MS} (h : IsB w0 W g q) : g < W.heap.size := h.2.lt
def IsQ (p : Nat) (w0 W : World) (g : Nat) (q : MS) (lies : Int) : Prop := IsB w0 W g q ∧ w0.heap.size ≤ p ∧ p ≠ g ∧ W.heap[p]? = some (.cells #[.int .i64 lies, .map (some g)] 35 (0, 0))
namespace IsQ
variable {p g : Nat} {w0 W W1 : World} {q q1 : MS} {lies : Int}
theorem base (h : IsQ p w0 W g q lies) : IsB w0 W g q := h.1
theorem below (h : IsQ p w0 W g q lies) (hw : Below W.heap.size W W1) : IsQ p w0 W1 g q lies := ⟨h.1.below hw, h.2.1, h.2.2.1, zz h.2.2.2 hw⟩
theorem alloc (h : IsQ p w0 W g q lies) (o : Obj) : IsQ p w0 (W.alloc o) g q lies := h.below (zq (Below.refl _ _) o)
theorem drewN (h : IsQ p w0 W g q lies) (m : Nat) : IsQ p w0 (W.drewN m) g q lies := h
theorem drew (h : IsQ p w0 W g q lies) : IsQ p w0 W.drew g q lies := h
theorem at_ {w' : World} {m : Nat} (hq : W.drewN m = w') (h : IsQ p w0 W g q lies) : IsQ p w0 w' g q lies := by subst hq; exact IsQ.drewN h m
theorem far {a : Addr} (h : IsQ p w0 W g q lies) (hg : g ≠ a.block) (hp : p ≠ a.block) (u : Value) : IsQ p w0 (W.setCell a u) g q lies := ⟨⟨h.1.1, h.1.2.far hg u⟩, h.2.1, h.2.2.1, zcc h.2.2.2 hp u⟩
theorem ge (h : IsQ p w0 W g q lies) : w0.heap.size ≤ g := h.1.1
theorem lt (h : IsQ p w0 W g q lies) : g < W.heap.size := h.1.lt
theorem ltp (h : IsQ p w0 W g q lies) : p < W.heap.size := zba h.2.2.2
theorem c0 (h : IsQ p w0 W g q lies) : W.cell? ⟨p, 0, none⟩ = some (.int .i64 lies) := (zh h.2.2.2 0).trans rfl
theorem c1 (h : IsQ p w0 W g q lies) : W.cell? ⟨p, 1, none⟩ = some (.map (some g)) := (zh h.2.2.2 1).trans rfl
theorem re (h : IsQ p w0 W g q lies) (hb : IsB w0 W1 g q1) (hk : zm W W1 g none) : IsQ p w0 W1 g q1 lies := ⟨hb, h.2.1, h.2.2.1, zm.blk hk h.2.2.2 h.2.2.1 (by simp)⟩
end IsQ
abbrev CI := MS → Int → Int → Int → Int → Int → Int → Option (Bool × MS)
abbrev CaniOK (C : CI) (q : Int) : Prop := ∀ (g : Nat) (st : MS) (lies x0 x1 x2 x3 : Int) (r1 : Bool) (r2 : MS) (w0 w : World), IsB w0 w g st → Below w0.heap.size w0 w → C st lies x0 x1 x2 x3 q = some (r1, r2) →
  Calls Try.prog 10 #[.agg #[.int .i64 lies, .map (some g)], .agg #[.int .i64 x0, .int .i64 x1, .int .i64 x2, .int .i64 x3], .int .i64 q] w fun e w' => e = .returned (.bool r1) ∧ IsB w0 w' g r2 ∧ Below w0.heap.size w0 w' ∧ zm w w' g none
theorem keep_put {w W W1 : World} {g : Nat} (h : zm w W g none) (hg : W.grownBy W1 (some g)) : zm w W1 g none :=
  h.trans ⟨hg.size, fun i hi hne _ => hg.block i hi (fun e => hne (by injection e))⟩ (.inl rfl)
theorem below_put {w0 W W1 : World} {g : Nat} (h : Below w0.heap.size w0 W) (hg : W.grownBy W1 (some g)) (hge : w0.heap.size ≤ g) : Below w0.heap.size w0 W1 :=
  h.grown hg h.size (fun k hk => by injection hk with hk; omega)
theorem IsQ.put {p g : Nat} {w0 W W1 : World} {q q1 : MS} {lies : Int} (h : IsQ p w0 W g q lies) (hm : IsM W1 g q1) (hg : W.grownBy W1 (some g)) : IsQ p w0 W1 g q1 lies :=
  ⟨⟨h.1.1, hm⟩, h.2.1, h.2.2.1, zue h.2.2.2 hg (fun e => h.2.2.1 (by injection e))⟩

end Go.Proofs.Ytgcbhknpfpgffaa.C
