/- Words for the maps of balances: what a map reads as, key by key; the laws at the operations. -/
import Derived.Test.YthhihmhcfodjiaaRx0
import Derived.Test.YthhihmhcfodjiaaWLast
import Derived.Maps.RangeWalk
import Derived.Maps.OwnSet
namespace Go.Proofs.Ythhihmhcfodjiaa.R
open Go.RowKit Go.Maps Go.Proofs.YthhihmhcfodjiaaW.PrintWords Go.Proofs.YthhihmhcfodjiaaW.PrintLast Go.Proofs.YthhihmhcfodjiaaW.PrintMore
set_option linter.unusedVariables false
set_option linter.unusedSimpArgs false

/-- A balance reads as its ways alone. -/
def RB : Value → Option (DataW Unit × List MemPlace)
  | .agg ⟨[.int .i64 a, .int .i64 b]⟩ => some (.lit (.int .i64 a), [])
  | _ => none
theorem RB_mk (a b : Int) : RB (.agg #[.int .i64 a, .int .i64 b]) = some (.lit (.int .i64 a), []) := rfl
theorem RB_inv {v : Value} {y : DataW Unit × List MemPlace} (h : RB v = some y) : ∃ p : Int × Int, v = .agg #[.int .i64 p.1, .int .i64 p.2] ∧ y = (.lit (.int .i64 p.1), []) := by
  unfold RB at h
  split at h
  · rename_i a b
    cases h
    exact ⟨(a, b), rfl, rfl⟩
  · cases h
/-- The map reads as the function f: 0 where nothing stands. -/
def Reads (D : DataW Unit) (f : Int → Nat) : Prop := IsMap D ∧ ∀ x zd, D.atKey (.int .i64 x) zd = if f x = 0 then zd else .lit (.int .i64 (f x))
theorem reads_empty : Reads (.map []) (fun _ => 0) := ⟨isMap_empty, fun _ _ => rfl⟩
theorem Reads.hit {D : DataW Unit} {f : Int → Nat} (h : Reads D f) (x : Int) : D.atKey (.int .i64 x) (.lit (.int .i64 0)) = .lit (.int .i64 (f x)) := by
  rw [h.2]
  by_cases e : f x = 0
  · rw [if_pos e, e]; rfl
  · rw [if_neg e]
theorem Reads.has {D : DataW Unit} {f : Int → Nat} (h : Reads D f) (x : Int) : Maps.has D (.int .i64 x) = decide (f x ≠ 0) := by
  by_cases e : f x = 0
  · rw [has_false_of_atKey (fun z => by rw [h.2, if_pos e])]
    simp [e]
  · rw [has_true_of_atKey (y := .lit (.int .i64 (f x))) (fun z => by rw [h.2, if_neg e])]
    simp [e]
theorem isKey64 (x : Int) : WideAt.IsKeyLit (.int .i64 x) := trivial
theorem Reads.put {D : DataW Unit} {f : Int → Nat} (h : Reads D f) (x : Int) (n : Nat) (hn : n ≠ 0) : Reads (D.put (.int .i64 x) (.lit (.int .i64 n))) (fun y => if y = x then n else f y) := by
  refine ⟨h.1.put _ _, fun y zd => ?_⟩
  by_cases e : y = x
  · subst e
    rw [atKey_put_same h.1 (isKey64 y)]
    simp [hn]
  · rw [atKey_put_other (by intro hh; injection hh with _ hh; exact e hh), h.2]
    simp [e]
theorem Reads.at_ {D : DataW Unit} {f : Int → Nat} (h : Reads D f) {x a : Int} (hat : ∀ zd, D.atKey (.int .i64 x) zd = .lit (.int .i64 a)) : f x ≠ 0 ∧ a = f x := by
  have h0 := h.2 x .nil
  rw [hat] at h0
  by_cases e : f x = 0
  · rw [if_pos e] at h0; cases h0
  · rw [if_neg e] at h0
    injection h0 with h0
    injection h0 with _ h0
    exact ⟨e, h0⟩
/-- Block b is a map of at most n entries that reads as f. -/
def IsM (w : World) (b n : Nat) (f : Int → Nat) : Prop := ∃ D, w.ownsMap Try.prog 2 RB b n D ∧ Reads D f
theorem key2 : Keyed Try.prog 2 := int_keyed Try.underlying2
theorem zero61 (w : World) : (zeroValue 61).run Try.prog w = .ok (.agg #[.int .i64 0, .int .i64 0]) w := by kernel_rfl
section
variable {ops : Array Oper} {rest : List Oper} {o : Oper} {a : Act} {Q : Exit → Act → World → Prop} {w : World}
theorem look_ok (hg : o.guard = none) (m x : Operand) (hop : o.op = Op.lookup 62 m x true) {b n : Nat} {f : Int → Nat} (hm : a.eval m = .map (some b)) (h : IsM w b n f) {k : Int} (hx : a.eval x = .int .i64 k) (hw : (Lit.int .i64 k).wf = true)
    (hK : ∀ c : Int, wpList Try.prog ops Q rest (a.put o.dst (.tuple #[.agg #[.int .i64 (f k), .int .i64 c], .bool (decide (f k ≠ 0))])) w) : wpList Try.prog ops Q (o :: rest) a w := by
  obtain ⟨D, ho, hR⟩ := h
  refine wpList_lookup_own_ok w hg m x 62 hop 2 61 key2 Try.underlying62 RB (zero61 w) (.lit (.int .i64 0)) [] (RB_mk 0 0) b n D hm ho (.int .i64 k) (.int .i64 k) hx (keyOf_int_mk Try.underlying2 hw) (fun v ps hv => ?_)
  rw [hR.hit] at hv
  obtain ⟨⟨p1, p2⟩, rfl, hy⟩ := RB_inv hv
  injection hy with hy _
  injection hy with hy
  injection hy with _ hy
  rw [hR.has]
  have := hK p2
  rw [hy] at this
  exact this
theorem look (hg : o.guard = none) (m x : Operand) (hop : o.op = Op.lookup 62 m x false) {b n : Nat} {f : Int → Nat} (hm : a.eval m = .map (some b)) (h : IsM w b n f) {k : Int} (hx : a.eval x = .int .i64 k) (hw : (Lit.int .i64 k).wf = true)
    (hK : ∀ c : Int, wpList Try.prog ops Q rest (a.put o.dst (.agg #[.int .i64 (f k), .int .i64 c])) w) : wpList Try.prog ops Q (o :: rest) a w := by
  obtain ⟨D, ho, hR⟩ := h
  refine wpList_plain hg fun K' hK' => ?_
  obtain ⟨v, ps, hrun, hv⟩ := ho.lookup key2 Try.underlying62 (zero61 w) (RB_mk 0 0) (keyOf_int_mk Try.underlying2 hw)
  rw [hR.hit] at hv
  obtain ⟨⟨p1, p2⟩, rfl, hy⟩ := RB_inv hv
  injection hy with hy _
  injection hy with hy
  injection hy with _ hy
  unfold Oper.wp
  simp [execOp, hop, hm, hx, hrun, Result.andThen]
  have := hK p2
  rw [hy] at this
  exact hK' _ _ this
theorem insert_ (hg : o.guard = none) (m x v : Operand) (hop : o.op = Op.insert 62 m x v) {b n : Nat} {f : Int → Nat} (hm : a.eval m = .map (some b)) (h : IsM w b n f) (hn : n < maxLen) {k c : Int} {q : Nat} (hx : a.eval x = .int .i64 k) (hw : (Lit.int .i64 k).wf = true) (hv : a.eval v = .agg #[.int .i64 q, .int .i64 c]) (hq : q ≠ 0)
    (hK : ∀ w', IsM w' b (n + 1) (fun y => if y = k then q else f y) → w.grownBy w' (some b) → wpList Try.prog ops Q rest (a.put o.dst undef) w') : wpList Try.prog ops Q (o :: rest) a w := by
  obtain ⟨D, ho, hR⟩ := h
  refine wpList_plain hg fun K' hK' => ?_
  obtain ⟨w', hrun, r1, r2⟩ := ho.update key2 Try.underlying62 hn (keyOf_int_mk Try.underlying2 hw) (RB_mk q c)
  unfold Oper.wp
  simp [execOp, hop, hm, hx, hv, hrun, Result.andThen]
  exact hK' _ _ (hK w' ⟨_, r1, hR.put k q hq⟩ r2)
theorem step_put {K : Act → World → Prop} {E : Prop} (hg : o.guard = none) (m x v : Operand) (hop : o.op = Op.mapUpdate 62 m x v) {b n : Nat} {f : Int → Nat} (hm : a.eval m = .map (some b)) (h : IsM w b n f) (hn : n < maxLen) {k c : Int} {q : Nat} (hx : a.eval x = .int .i64 k) (hw : (Lit.int .i64 k).wf = true) (hv : a.eval v = .agg #[.int .i64 q, .int .i64 c]) (hq : q ≠ 0)
    (hK : ∀ w', IsM w' b (n + 1) (fun y => if y = k then q else f y) → w.grownBy w' (some b) → K (a.put o.dst undef) w') : if Region.wanted o (yielded ops a.tmps) = true then Oper.wp Try.prog o a w K Q else E := by
  obtain ⟨D, ho, hR⟩ := h
  have hw' : Region.wanted o (yielded ops a.tmps) = true := by simp [Region.wanted, hg]
  rw [if_pos hw']
  obtain ⟨w', hrun, r1, r2⟩ := ho.update key2 Try.underlying62 hn (keyOf_int_mk Try.underlying2 hw) (RB_mk q c)
  unfold Oper.wp
  simp [execOp, hop, hm, hx, hv, hrun, Result.andThen]
  exact hK w' ⟨_, r1, hR.put k q hq⟩ r2
/-- A range over such a map under way: left says which keys are still to come. -/
def Rng (w : World) (b r n : Nat) (f : Int → Nat) (left : Int → Bool) (cnt : Nat) : Prop := ∃ D l, w.ranges Try.prog 2 RB b r n D l cnt ∧ Reads D f ∧ ∀ x, left x = l (.int .i64 x)
theorem range_ (hg : o.guard = none) (m : Operand) (hop : o.op = Op.range 62 m) {b n : Nat} {f : Int → Nat} (hm : a.eval m = .map (some b)) (h : IsM w b n f)
    (hK : ∀ w' cnt, cnt ≤ n → Rng w' b w.heap.size n f (fun x => decide (f x ≠ 0)) cnt → w.grownBy w' none → w'.heap.size = w.heap.size + 1 → wpList Try.prog ops Q rest (a.put o.dst (.pointer (some ⟨w.heap.size, 0, none⟩))) w') :
    wpList Try.prog ops Q (o :: rest) a w := by
  obtain ⟨D, ho, hR⟩ := h
  exact wpList_range_own w hg m 62 hop 2 61 key2 Try.underlying62 RB b n D hm ho (fun w' h1 h2 h3 => hK w' _ ho.size_le ⟨D, _, h1, hR, fun x => (hR.has x).symm⟩ h2 h3)
theorem next_ (hg : o.guard = none) (it : Operand) (hop : o.op = Op.next it false) {b r n cnt : Nat} {f : Int → Nat} {left : Int → Bool} (hit : a.eval it = .pointer (some ⟨r, 0, none⟩)) (h : Rng w b r n f left cnt)
    (hDone : cnt = 0 → (∀ x, left x = false) → wpList Try.prog ops Q rest (a.put o.dst (.tuple #[.bool false])) w)
    (hMore : ∀ (x c : Int) (w' : World) (cnt' : Nat), (Lit.int .i64 x).wf = true → left x = true → f x ≠ 0 → Rng w' b r n f (fun z => left z && !(z == x)) cnt' → cnt' < cnt → w.grownBy w' (some r) → w'.heap.size = w.heap.size →
      (Instr.entry (.pointer (some ⟨r, 0, none⟩))).run Try.prog w' = .ok (.tuple #[.int .i64 x, .agg #[.int .i64 (f x), .int .i64 c]]) w' → wpList Try.prog ops Q rest (a.put o.dst (.tuple #[.bool true, .int .i64 x, .agg #[.int .i64 (f x), .int .i64 c]])) w') :
    wpList Try.prog ops Q (o :: rest) a w := by
  obtain ⟨D, l, hr, hR, hl⟩ := h
  refine wpList_next_ranges w hg it hop 2 key2 RB (Value.int .i64) (fun p : Int × Int => .agg #[.int .i64 p.1, .int .i64 p.2]) (fun key kl hkey => by obtain ⟨x, rfl, _⟩ := Maps.keyOf_int_inv Try.underlying2 hkey; exact ⟨x, rfl⟩) (fun v y hv => by obtain ⟨p, e, _⟩ := RB_inv hv; exact ⟨p, e⟩)
    b r n D l cnt hit hr (fun h0 hl0 => hDone h0 (fun x => by rw [hl]; exact hl0 _)) (fun x p kl y w' cnt' hkey hlk hv hat hrg hlt hgr hsz hen => ?_)
  obtain ⟨x', ex, rfl, hwx⟩ := Maps.keyOf_int_inv Try.underlying2 hkey
  cases ex
  obtain ⟨p', ep, rfl⟩ := RB_inv hv
  obtain ⟨p1, p2⟩ := p
  obtain ⟨q1, q2⟩ := p'
  have e1 : p1 = q1 ∧ p2 = q2 := by simpa using ep
  obtain ⟨rfl, rfl⟩ := e1
  obtain ⟨hf, rfl⟩ := hR.at_ hat
  refine hMore x p2 w' cnt' hwx (by rw [hl]; exact hlk) hf ⟨D, _, hrg, hR, fun z => ?_⟩ hlt hgr hsz hen
  show (left z && !(z == x)) = _
  rw [hl]
  congr 2
  by_cases e : z = x
  · subst e; simp [WideAt.sameKey_self (isKey64 z)]
  · rw [sameKey_ne (by intro hh; injection hh with _ hh; exact e hh)]; simp [e]
end
theorem IsM.kept {w w' : World} {b n : Nat} {f : Int → Nat} {row : Option Nat} (h : IsM w b n f) (hg : w.grownBy w' row) (hne : some b ≠ row) : IsM w' b n f := by
  obtain ⟨D, ho, hR⟩ := h
  exact ⟨D, ho.kept hg hne, hR⟩
theorem IsM.mono {w : World} {b n n' : Nat} {f : Int → Nat} (h : IsM w b n f) (hn : n ≤ n') : IsM w b n' f := by
  obtain ⟨D, ho, hR⟩ := h
  exact ⟨D, ho.mono hn, hR⟩
theorem IsM.alloc {w : World} {b n : Nat} {f : Int → Nat} (h : IsM w b n f) (o : Obj) : IsM (w.alloc o) b n f := h.kept (World.grownBy_alloc w o none) (by simp)
theorem IsM.drew {w : World} {b n : Nat} {f : Int → Nat} (h : IsM w b n f) : IsM w.drew b n f := h
theorem IsM.lt {w : World} {b n : Nat} {f : Int → Nat} (h : IsM w b n f) : b < w.heap.size := by
  obtain ⟨D, ho, hR⟩ := h
  exact ho.lt
theorem IsM.setCell {w : World} {b n : Nat} {f : Int → Nat} (h : IsM w b n f) {a : Addr} (ha : b ≠ a.block) (u : Value) : IsM (w.setCell a u) b n f := by
  obtain ⟨D, ho, hR⟩ := h
  exact ⟨D, ho.setCell ha u, hR⟩
theorem IsM.eqv {w : World} {b n : Nat} {f g : Int → Nat} (h : IsM w b n f) (e : ∀ x, f x = g x) : IsM w b n g := by
  obtain rfl : f = g := funext e
  exact h
theorem isM_made (w : World) : IsM (w.alloc (.map #[] 0)) w.heap.size 0 (fun _ => 0) := ⟨_, World.ownsMap_made w Try.prog 2 RB, reads_empty⟩
theorem Rng.owns {w : World} {b r n cnt : Nat} {f : Int → Nat} {left : Int → Bool} (h : Rng w b r n f left cnt) : IsM w b n f := by
  obtain ⟨D, l, hr, hR, hl⟩ := h
  exact ⟨D, hr.owns, hR⟩
theorem Rng.left_eq {w : World} {b r n cnt : Nat} {f : Int → Nat} {left : Int → Bool} (h : Rng w b r n f left cnt) : w.rangeLeft b r = cnt := by
  obtain ⟨D, l, hr, hR, hl⟩ := h
  exact hr.left_eq
theorem Rng.kept {w w' : World} {b r n cnt : Nat} {f : Int → Nat} {left : Int → Bool} {row : Option Nat} (h : Rng w b r n f left cnt) (hg : w.grownBy w' row) (h1 : some b ≠ row) (h2 : some r ≠ row) : Rng w' b r n f left cnt := by
  obtain ⟨D, l, hr, hR, hl⟩ := h
  exact ⟨D, l, hr.kept hg h1 h2, hR, hl⟩
end Go.Proofs.Ythhihmhcfodjiaa.R
