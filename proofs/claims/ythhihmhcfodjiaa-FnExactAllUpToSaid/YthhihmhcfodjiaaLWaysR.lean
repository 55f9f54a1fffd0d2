/- In how many ways weights balance a mass: plain lemmas. -/
import Derived.Test.YthhihmhcfodjiaaLMapR
import Derived.Test.YthhihmhcfodjiaaLSidesR
namespace Go.Proofs.Ythhihmhcfodjiaa.R
open Go.RowKit Go.Maps Go.Proofs.YthhihmhcfodjiaaW.PrintWords Go.Proofs.YthhihmhcfodjiaaW.PrintLast Go.Proofs.YthhihmhcfodjiaaW.PrintMore
set_option linter.unusedVariables false
set_option linter.unusedSimpArgs false

/-- In how many ways the weights balance a mass. -/
def ways (both : Bool) : List Int → Int → Nat
  | [], m => if m = 0 then 1 else 0
  | x :: l, m => ways both l m + ways both l (m - x) + (if both = true then ways both l (m + x) else 0)
/-- What the weights may be. -/
def Okay (l : List Int) : Prop := 1 ≤ l.length ∧ l.length ≤ 16 ∧ (∀ x ∈ l, 1 ≤ x) ∧ l.sum ≤ 2000
theorem ways_le (both : Bool) : ∀ (l : List Int) (m : Int), ways both l m ≤ 3 ^ l.length := by
  intro l
  induction l with
  | nil => intro m; unfold ways; split <;> simp
  | cons x l ih =>
    intro m
    have h1 := ih m
    have h2 := ih (m - x)
    have h3 := ih (m + x)
    have e : 3 ^ (x :: l).length = 3 ^ l.length * 3 := by rw [List.length_cons, Nat.pow_succ]
    rw [e]
    unfold ways
    split <;> omega
theorem ways_far (both : Bool) : ∀ (l : List Int) (m : Int), (∀ x ∈ l, 1 ≤ x) → ways both l m ≠ 0 → -l.sum ≤ m ∧ m ≤ l.sum := by
  intro l
  induction l with
  | nil =>
    intro m _ h
    unfold ways at h
    by_cases e : m = 0
    · subst e; simp
    · rw [if_neg e] at h; exact absurd rfl h
  | cons x l ih =>
    intro m hp h
    have hx := hp x (by simp)
    have hl : ∀ y ∈ l, 1 ≤ y := fun y hy => hp y (by simp [hy])
    rw [List.sum_cons]
    unfold ways at h
    by_cases a : ways both l m = 0
    · by_cases b : ways both l (m - x) = 0
      · have c : ways both l (m + x) ≠ 0 := by
          intro c
          rw [a, b, c] at h
          simp at h
        have := ih (m + x) hl c
        omega
      · have := ih (m - x) hl b
        omega
    · have := ih m hl a
      omega
theorem drop_rd (l : List Int) (e : Nat) (h : e < l.length) : l.drop e = rd l (e : Int) :: l.drop (e + 1) := by
  rw [List.drop_eq_getElem_cons h]
  congr 1
  unfold rd
  simp [List.getD, List.getElem?_eq_getElem h]
theorem sum_ge : ∀ (l : List Int), (∀ x ∈ l, 1 ≤ x) → (l.length : Int) ≤ l.sum := by
  intro l
  induction l with
  | nil => intro _; simp
  | cons x l ih =>
    intro h
    have := h x (by simp)
    have := ih (fun y hy => h y (by simp [hy]))
    rw [List.sum_cons, List.length_cons]
    omega
theorem sum_drop : ∀ (l : List Int) (e : Nat), (∀ x ∈ l, 1 ≤ x) → (l.drop e).sum ≤ l.sum := by
  intro l
  induction l with
  | nil => intro e _; simp
  | cons x l ih =>
    intro e h
    cases e with
    | zero => simp
    | succ e =>
      have := h x (by simp)
      have := ih e (fun y hy => h y (by simp [hy]))
      rw [List.drop_succ_cons, List.sum_cons]
      omega
theorem okay_rd {l : List Int} (h : Okay l) (e : Nat) (he : e < l.length) : 1 ≤ rd l (e : Int) ∧ rd l (e : Int) ≤ 2000 := by
  obtain ⟨_, _, hp, hs⟩ := h
  have h1 := drop_rd l e he
  have h2 := sum_drop l e hp
  rw [h1, List.sum_cons] at h2
  have h3 := sum_ge (l.drop (e + 1)) (fun x hx => hp x (List.mem_of_mem_drop hx))
  have h4 : rd l (e : Int) ∈ l := List.mem_of_mem_drop (by rw [h1]; simp)
  have := hp _ h4
  omega
/-- What the keys that are done give to the next map. -/
def acc (both : Bool) (x : Int) (p : Int → Nat) (m : Int) : Nat := p m + p (m - x) + (if both = true then p (m + x) else 0)
def part (f : Int → Nat) (left : Int → Bool) (m : Int) : Nat := if left m = true then 0 else f m
def sidesL (both : Bool) : List Int := if both = true then [-1, 0, 1] else [0, 1]
/-- What the first sides give for one key. -/
def cont (n : Nat) (x wi : Int) : List Int → Int → Nat
  | [], _ => 0
  | s :: r, m => (if m = x + s * wi then n else 0) + cont n x wi r m
theorem cont_snoc (n : Nat) (x wi : Int) (s m : Int) : ∀ r : List Int, cont n x wi (r ++ [s]) m = cont n x wi r m + (if m = x + s * wi then n else 0) := by
  intro r
  induction r with
  | nil => simp [cont]
  | cons a r ih => simp only [List.cons_append, cont, ih]; omega
theorem acc_start (both : Bool) (x : Int) (f : Int → Nat) : ∀ m, (0 : Nat) = acc both x (part f (fun y => decide (f y ≠ 0))) m := by
  have h : ∀ y, part f (fun y => decide (f y ≠ 0)) y = 0 := by
    intro y
    unfold part
    by_cases e : f y = 0
    · simp [e]
    · simp [e]
  intro m
  unfold acc
  rw [h, h, h]
  simp
theorem acc_end (both : Bool) (x : Int) (l : List Int) (left : Int → Bool) (h : ∀ y, left y = false) : ∀ m, acc both x (part (ways both l) left) m = ways both (x :: l) m := by
  have h : ∀ y, part (ways both l) left y = ways both l y := by
    intro y
    unfold part
    rw [h y]
    simp
  intro m
  unfold acc
  rw [h, h, h]
  rfl
theorem acc_step (both : Bool) (wi : Int) (f : Int → Nat) (left : Int → Bool) (x : Int) (hx : left x = true) : ∀ m, acc both wi (part f left) m + cont (f x) x wi (sidesL both) m = acc both wi (part f (fun z => left z && !(z == x))) m := by
  have h : ∀ y, part f (fun z => left z && !(z == x)) y = part f left y + (if y = x then f x else 0) := by
    intro y
    unfold part
    by_cases e : y = x
    · subst e; simp [hx]
    · simp [e]
  intro m
  unfold acc
  rw [h, h, h]
  have e1 : (m - wi = x) ↔ (m = x + 1 * wi) := by omega
  have e2 : (m = x) ↔ (m = x + 0 * wi) := by omega
  have e3 : (m + wi = x) ↔ (m = x + -1 * wi) := by omega
  simp only [e1, e2, e3]
  cases both
  · simp only [sidesL, Bool.false_eq_true, if_false, cont]
    omega
  · simp only [sidesL, if_true, cont]
    omega
theorem info62 : (Try.prog.info? 62).map (fun i => (i.zero, i.size, i.bytes)) = some (some (.map none), 1, 8) := by kernel_rfl
theorem make63 {ops : Array Oper} {rest : List Oper} {o : Oper} {a : Act} {Q : Exit → Act → World → Prop} {w : World} (hg : o.guard = none) (x : Operand) (hop : o.op = Op.makeSlice 63 x x) {N : Int} (n : Nat) (hx : a.eval x = .int .i64 N) (hN : N = (n : Int)) (hn : n ≤ 17)
    (hK : ∀ w' cs, w'.heap[w.heap.size]? = some (.cells cs 62 (0, 0)) → cs.size = n → w.grownBy w' none → wpList Try.prog ops Q rest (a.put o.dst (.slice (some ⟨w.heap.size, 0, none⟩) n n)) w') : wpList Try.prog ops Q (o :: rest) a w := by
  refine wpList_plain hg fun K' hK' => ?_
  obtain ⟨i, hi, hz0, hz1, hz2⟩ := info_parts info62
  subst hN
  have hr := run_make (P := Try.prog) w 63 62 i _ Try.underlying63 hi hz0 .i64 .i64 (n : Int) (n : Int) (by omega) (by omega) (by rw [hz2]; omega) (by omega)
  unfold Oper.wp
  simp [execOp, hop, hx, hr, Result.andThen]
  refine hK' _ _ (hK _ _ (heap_alloc_new w _) ?_ (World.grownBy_alloc w _ none))
  rw [size_madeCells, hz1]
  omega
end Go.Proofs.Ythhihmhcfodjiaa.R
