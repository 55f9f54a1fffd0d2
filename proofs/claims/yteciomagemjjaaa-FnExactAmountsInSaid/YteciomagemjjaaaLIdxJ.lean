/- The number of a water, and the water with a number. -/
import Derived.Test.YteciomagemjjaaaJx10
import Derived.Test.YteciomagemjjaaaLPuzJ
namespace Go.Proofs.Yteciomagemjjaaa.J
open Go.RowKit Go.Proofs.YteciomagemjjaaaW.PrintWords Go.Proofs.YteciomagemjjaaaW.PrintLast Go.Proofs.YteciomagemjjaaaW.PrintMore
set_option linter.unusedVariables false
set_option linter.unusedSimpArgs false

def IX : List Int → List Int → Int
  | x :: xs, w :: ws => w + (x + 1) * IX xs ws
  | _, _ => 0
def Ins : List Int → List Int → Prop
  | x :: xs, w :: ws => (0 ≤ w ∧ w ≤ x) ∧ Ins xs ws
  | [], _ => True
  | _ :: _, [] => False
theorem ins_of {l : List Int} (hn : l.length ≤ 4) {a b c d : Int} (h : wat l a b c d) : Ins l [a, b, c, d] := by
  have h0 := h 0 (by omega)
  have h1 := h 1 (by omega)
  have h2 := h 2 (by omega)
  have h3 := h 3 (by omega)
  simp only [rd] at h0 h1 h2 h3
  match l, hn with
  | [], _ => trivial
  | [x], _ => exact ⟨by simpa using h0, trivial⟩
  | [x, y], _ => exact ⟨by simpa using h0, by simpa using h1, trivial⟩
  | [x, y, z], _ => exact ⟨by simpa using h0, by simpa using h1, by simpa using h2, trivial⟩
  | [x, y, z, u], _ => exact ⟨by simpa using h0, by simpa using h1, by simpa using h2, by simpa using h3, trivial⟩
theorem ins_drop : ∀ (j : Nat) (l W : List Int), Ins l W → Ins (l.drop j) (W.drop j)
  | 0, _, _, h => h
  | j + 1, [], W, _ => by simp [Ins]
  | j + 1, x :: xs, [], h => by simp [Ins] at h
  | j + 1, x :: xs, w :: ws, h => ins_drop j xs ws h.2
theorem IX_lt : ∀ (l W : List Int), (∀ x ∈ l, jug x) → Ins l W → 0 ≤ IX l W ∧ IX l W < PR l
  | [], W, _, _ => by cases W <;> simp [IX, PR]
  | x :: xs, [], _, h => by simp [Ins] at h
  | x :: xs, w :: ws, hj, h => by
    obtain ⟨i1, i2⟩ := IX_lt xs ws (fun y hy => hj y (List.mem_cons_of_mem _ hy)) h.2
    have hx := hj x List.mem_cons_self
    unfold jug at hx
    have hw := h.1
    have h1 : 0 ≤ (x + 1) * IX xs ws := Int.mul_nonneg (by omega) i1
    have h2 : (x + 1) * IX xs ws ≤ (x + 1) * (PR xs - 1) := Int.mul_le_mul_of_nonneg_left (by omega) (by omega)
    have h3 : (x + 1) * (PR xs - 1) = (x + 1) * PR xs - (x + 1) := by rw [Int.mul_sub, Int.mul_one]
    simp only [IX, PR]
    omega
theorem PR_le : ∀ (l : List Int), (∀ x ∈ l, jug x) → PR l ≤ 61 ^ l.length
  | [], _ => by simp [PR]
  | x :: xs, h => by
    have h1 := PR_le xs (fun y hy => h y (List.mem_cons_of_mem _ hy))
    have h2 := h x List.mem_cons_self
    have h3 := PR_pos (fun y hy => h y (List.mem_cons_of_mem x hy))
    unfold jug at h2
    have h4 : (x + 1) * PR xs ≤ 61 * PR xs := Int.mul_le_mul_of_nonneg_right (by omega) (by omega)
    have h5 : 61 * PR xs ≤ 61 * 61 ^ xs.length := Int.mul_le_mul_of_nonneg_left h1 (by omega)
    simp only [PR, List.length_cons, Int.pow_succ]
    rw [Int.mul_comm (61 ^ xs.length) 61]
    omega
theorem pow4 (n : Nat) (h : n ≤ 4) : (61 : Int) ^ n ≤ 13845841 := by
  have : n = 0 ∨ n = 1 ∨ n = 2 ∨ n = 3 ∨ n = 4 := by omega
  rcases this with h | h | h | h | h <;> rw [h] <;> decide
/-- What is known of the jugs. -/
structure Jugs (l : List Int) : Prop where
  n1 : 1 ≤ l.length
  n4 : l.length ≤ 4
  jg : ∀ x ∈ l, jug x
  pr : PR l ≤ 5000
theorem IX_small {l W : List Int} (hn : l.length ≤ 4) (hj : ∀ x ∈ l, jug x) (h : Ins l W) (j : Nat) : 0 ≤ IX (l.drop j) (W.drop j) ∧ IX (l.drop j) (W.drop j) < 13845841 := by
  have hd : ∀ x ∈ l.drop j, jug x := fun x hx => hj x (List.mem_of_mem_drop hx)
  have h1 := IX_lt _ _ hd (ins_drop j l W h)
  have h2 := PR_le _ hd
  have h3 := pow4 (l.drop j).length (by rw [List.length_drop]; omega)
  omega
theorem IX_step {l W : List Int} (j : Nat) (h1 : j < l.length) (h2 : j < W.length) : IX (l.drop j) (W.drop j) = rd W j + (rd l j + 1) * IX (l.drop (j + 1)) (W.drop (j + 1)) := by
  rw [ztd l j h1, ztd W j h2]
  rfl
theorem ins_at {l W : List Int} (h : Ins l W) (j : Nat) (h1 : j < l.length) (h2 : j < W.length) : 0 ≤ rd W j ∧ rd W j ≤ rd l j := by
  have := ins_drop j l W h
  rw [ztd l j h1, ztd W j h2] at this
  exact this.1
theorem index_l0 {l : List Int} (hn : l.length ≤ 4) (hj : ∀ x ∈ l, jug x) (a b c d : Int) (tap : Bool) (w0 w1 w2 w3 : Int) (h : Ins l [w0, w1, w2, w3]) : ∀ (j : Nat), j ≤ l.length → ∀ k, j < k →
    spec_l02Index.l0 k (IX (l.drop j) ([w0, w1, w2, w3].drop j)) ((j : Int) - 1) l a b c d tap w0 w1 w2 w3 = some (IX l [w0, w1, w2, w3]) := by
  intro j
  induction j with
  | zero =>
    intro _ k hk
    obtain ⟨k, rfl⟩ : ∃ m, k = m + 1 := ⟨k - 1, by omega⟩
    simp only [spec_l02Index.l0]
    rw [if_neg (show ¬ (((0 : Nat) : Int) - 1 ≥ 0) by omega)]
    rfl
  | succ j ih =>
    intro hl k hk
    obtain ⟨k, rfl⟩ : ∃ m, k = m + 1 := ⟨k - 1, by omega⟩
    have e : ((j + 1 : Nat) : Int) - 1 = (j : Int) := by omega
    have hx := hj _ (rd_mem l j (by omega))
    unfold jug at hx
    have hw := ins_at h j (by omega) (by simp; omega)
    have s0 := IX_small hn hj h j
    have s1 := IX_small hn hj h (j + 1)
    have st := IX_step (l := l) (W := [w0, w1, w2, w3]) j (by omega) (by simp; omega)
    have e1 : wrap64 (wrap64 (rd l j) + 1) = rd l j + 1 := by unfold wrap64; omega
    have e2 : wrap64 (rd [w0, w1, w2, w3] (j : Int)) = rd [w0, w1, w2, w3] (j : Int) := by unfold wrap64; omega
    have nn : 0 ≤ (rd l j + 1) * IX (l.drop (j + 1)) ([w0, w1, w2, w3].drop (j + 1)) := Int.mul_nonneg (by omega) s1.1
    have e3 : wrap64 (IX (l.drop (j + 1)) ([w0, w1, w2, w3].drop (j + 1)) * (rd l j + 1)) = (rd l j + 1) * IX (l.drop (j + 1)) ([w0, w1, w2, w3].drop (j + 1)) := by
      rw [Int.mul_comm]
      generalize (rd l j + 1) * IX (l.drop (j + 1)) ([w0, w1, w2, w3].drop (j + 1)) = z at st nn ⊢
      unfold wrap64
      omega
    have e4 : wrap64 ((rd l j + 1) * IX (l.drop (j + 1)) ([w0, w1, w2, w3].drop (j + 1)) + rd [w0, w1, w2, w3] (j : Int)) = IX (l.drop j) ([w0, w1, w2, w3].drop j) := by
      rw [st, Int.add_comm]
      rw [st] at s0
      generalize rd [w0, w1, w2, w3] (j : Int) + (rd l j + 1) * IX (l.drop (j + 1)) ([w0, w1, w2, w3].drop (j + 1)) = z at s0 ⊢
      unfold wrap64
      omega
    have e5 : wrap64 ((j : Int) - 1) = (j : Int) - 1 := by unfold wrap64; omega
    have p1 : (j : Int) ≥ 0 := by omega
    have p2 : (j : Int) < (l.length : Int) := by omega
    have p3 : (j : Int) < 4 := by omega
    rw [e]
    simp only [spec_l02Index.l0]
    rw [if_pos p1, if_pos (by omega), if_pos p2, if_pos p3, e1, e2, e3, e4, e5]
    exact ih (by omega) k (by omega)
theorem drop_all (l : List Int) (W : List Int) : IX (l.drop l.length) W = 0 := by
  rw [List.drop_length]
  cases W <;> rfl
theorem index_f {l : List Int} (J : Jugs l) (a b c d : Int) (tap : Bool) {w0 w1 w2 w3 : Int} (h : wat l w0 w1 w2 w3) (k : Nat) (hk : 4 < k) : spec_l02Index.f k l a b c d tap w0 w1 w2 w3 = some (IX l [w0, w1, w2, w3]) := by
  have hn := J.n4
  unfold spec_l02Index.f
  have e : wrap64 ((l.length : Int) - 1) = (l.length : Int) - 1 := by have := J.n1; unfold wrap64; omega
  rw [e]
  have := index_l0 J.n4 J.jg a b c d tap w0 w1 w2 w3 (ins_of J.n4 h) l.length (by omega) k (by omega)
  rw [drop_all] at this
  exact this
theorem pick_m (m j : Nat) (W : List Int) : zlb (j : Int) (m : Int) (rd W j) (if m < j then rd W m else 0) = if m < j + 1 then rd W m else 0 := by
  unfold zlb
  by_cases h : j = m
  · subst h
    rw [if_pos rfl, if_pos (by omega)]
  · rw [if_neg (by omega)]
    by_cases h2 : m < j
    · rw [if_pos h2, if_pos (by omega)]
    · rw [if_neg h2, if_neg (by omega)]
theorem div_mod (x w I : Int) (hx : jug x) (hw : 0 ≤ w ∧ w ≤ x) (hI : 0 ≤ I) : Int.tmod (w + (x + 1) * I) (x + 1) = w ∧ Int.tdiv (w + (x + 1) * I) (x + 1) = I := by
  unfold jug at hx
  have h1 : 0 ≤ (x + 1) * I := Int.mul_nonneg (by omega) hI
  refine ⟨?_, ?_⟩
  · rw [Int.tmod_eq_emod_of_nonneg (by omega), Int.add_mul_emod_self_left]
    exact Int.emod_eq_of_lt (by omega) (by omega)
  · rw [Int.tdiv_eq_ediv_of_nonneg (by omega), Int.add_mul_ediv_left _ _ (by omega), Int.ediv_eq_zero_of_lt (by omega) (by omega)]
    omega
theorem zpc {w : Int} (h : 0 ≤ w ∧ w < 32768) : IntKind.i16.wrap w = w := by
  simp [IntKind.wrap, IntKind.signed, IntKind.bits]
  omega
theorem at_l0 {l : List Int} (hn : l.length ≤ 4) (hj : ∀ x ∈ l, jug x) (a b c d : Int) (tap : Bool) (w0 w1 w2 w3 : Int) (h : wat l w0 w1 w2 w3) (e : Nat) : ∀ (j : Nat), j + e = l.length → ∀ k, e < k →
    spec_l02At.l0 k (IX (l.drop j) ([w0, w1, w2, w3].drop j)) j l a b c d tap (if 0 < j then rd [w0, w1, w2, w3] (0 : Nat) else 0) (if 1 < j then rd [w0, w1, w2, w3] (1 : Nat) else 0) (if 2 < j then rd [w0, w1, w2, w3] (2 : Nat) else 0) (if 3 < j then rd [w0, w1, w2, w3] (3 : Nat) else 0) = some (w0, w1, w2, w3) := by
  have hi := ins_of hn h
  induction e with
  | zero =>
    intro j hj2 k hk
    obtain ⟨k, rfl⟩ : ∃ m, k = m + 1 := ⟨k - 1, by omega⟩
    have nj : ¬ ((j : Int) < (l.length : Int)) := by omega
    have z : ∀ m : Nat, m < 4 → (if m < j then rd [w0, w1, w2, w3] (m : Int) else 0) = rd [w0, w1, w2, w3] (m : Int) := by
      intro m hm
      by_cases c : m < j
      · rw [if_pos c]
      · rw [if_neg c]
        have := h m hm
        rw [zgf l m (by omega)] at this
        omega
    simp only [spec_l02At.l0]
    rw [if_neg nj, z 0 (by omega), z 1 (by omega), z 2 (by omega), z 3 (by omega)]
    rfl
  | succ e ih =>
    intro j hj2 k hk
    obtain ⟨k, rfl⟩ : ∃ m, k = m + 1 := ⟨k - 1, by omega⟩
    have hx := hj _ (rd_mem l j (by omega))
    have hx' := hx
    unfold jug at hx'
    have hw := ins_at hi j (by omega) (by simp; omega)
    have s1 := IX_small hn hj hi (j + 1)
    have st := IX_step (l := l) (W := [w0, w1, w2, w3]) j (by omega) (by simp; omega)
    have e1 : wrap64 (wrap64 (rd l j) + 1) = rd l j + 1 := by unfold wrap64; omega
    obtain ⟨d1, d2⟩ := div_mod _ _ _ hx hw s1.1
    have e2 : wrap64 (IX (l.drop (j + 1)) ([w0, w1, w2, w3].drop (j + 1))) = IX (l.drop (j + 1)) ([w0, w1, w2, w3].drop (j + 1)) := by unfold wrap64; omega
    have e3 : IntKind.i16.wrap (rd [w0, w1, w2, w3] (j : Int)) = rd [w0, w1, w2, w3] (j : Int) := zpc (by omega)
    have p1 : (j : Int) < (l.length : Int) := by omega
    have p2 : 0 ≤ (j : Int) := by omega
    have p3 : (j : Int) < 4 := by omega
    have nz : ¬ (rd l (j : Int) + 1 = 0) := by omega
    simp only [spec_l02At.l0]
    rw [st, e1, d1, d2, e2, e3, if_pos p1, if_pos p2, if_neg nz, if_pos p3, zac (n := 4) (by omega) (by omega)]
    rw [show zlb (j : Int) 0 (rd [w0, w1, w2, w3] (j : Int)) (if 0 < j then rd [w0, w1, w2, w3] ((0 : Nat) : Int) else 0) = _ from pick_m 0 j _, show zlb (j : Int) 1 (rd [w0, w1, w2, w3] (j : Int)) (if 1 < j then rd [w0, w1, w2, w3] ((1 : Nat) : Int) else 0) = _ from pick_m 1 j _, show zlb (j : Int) 2 (rd [w0, w1, w2, w3] (j : Int)) (if 2 < j then rd [w0, w1, w2, w3] ((2 : Nat) : Int) else 0) = _ from pick_m 2 j _, show zlb (j : Int) 3 (rd [w0, w1, w2, w3] (j : Int)) (if 3 < j then rd [w0, w1, w2, w3] ((3 : Nat) : Int) else 0) = _ from pick_m 3 j _]
    exact ih (j + 1) (by omega) k (by omega)
theorem at_f {l : List Int} (J : Jugs l) (a b c d : Int) (tap : Bool) {w0 w1 w2 w3 : Int} (h : wat l w0 w1 w2 w3) (k : Nat) (hk : 4 < k) : spec_l02At.f k l a b c d tap (IX l [w0, w1, w2, w3]) = some (w0, w1, w2, w3) := by
  have hn := J.n4
  unfold spec_l02At.f
  exact at_l0 J.n4 J.jg a b c d tap w0 w1 w2 w3 h l.length 0 (by omega) k (by omega)
theorem IX_inj : ∀ (l W V : List Int), (∀ x ∈ l, jug x) → Ins l W → Ins l V → IX l W = IX l V → ∀ j : Nat, j < l.length → rd W j = rd V j
  | [], _, _, _, _, _, _, j, hj => absurd hj (by simp)
  | x :: xs, [], _, _, h, _, _, _, _ => by simp [Ins] at h
  | x :: xs, _ :: _, [], _, _, h, _, _, _ => by simp [Ins] at h
  | x :: xs, w :: ws, v :: vs, hj, h1, h2, e, j, hl => by
    have hx := hj x List.mem_cons_self
    have hjs : ∀ y ∈ xs, jug y := fun y hy => hj y (List.mem_cons_of_mem _ hy)
    have a1 := (IX_lt xs ws hjs h1.2).1
    have a2 := (IX_lt xs vs hjs h2.2).1
    have b1 := div_mod x w (IX xs ws) hx h1.1 a1
    have b2 := div_mod x v (IX xs vs) hx h2.1 a2
    simp only [IX] at e
    rw [e] at b1
    have ew : w = v := b1.1.symm.trans b2.1
    have ei : IX xs ws = IX xs vs := b1.2.symm.trans b2.2
    cases j with
    | zero => simpa [rd] using ew
    | succ j =>
      have := IX_inj xs ws vs hjs h1.2 h2.2 ei j (by simpa using hl)
      rw [rd_at, rd_at] at this ⊢
      simpa using this
def ix (l : List Int) (x : S27) : Int := IX l [x.f0, x.f1, x.f2, x.f3]
def watS (l : List Int) (x : S27) : Prop := wat l x.f0 x.f1 x.f2 x.f3
theorem ix_inj {l : List Int} (J : Jugs l) {x y : S27} (hx : watS l x) (hy : watS l y) (h : ix l x = ix l y) : x = y := by
  have e : ∀ m : Nat, m < 4 → rd [x.f0, x.f1, x.f2, x.f3] (m : Int) = rd [y.f0, y.f1, y.f2, y.f3] (m : Int) := by
    intro m hm
    by_cases c : m < l.length
    · exact IX_inj l _ _ J.jg (ins_of J.n4 hx) (ins_of J.n4 hy) h m c
    · have h1 := hx m hm
      have h2 := hy m hm
      rw [zgf l m (by omega)] at h1 h2
      omega
  obtain ⟨x0, x1, x2, x3⟩ := x
  obtain ⟨y0, y1, y2, y3⟩ := y
  have e0 : x0 = y0 := e 0 (by omega)
  have e1 : x1 = y1 := e 1 (by omega)
  have e2 : x2 = y2 := e 2 (by omega)
  have e3 : x3 = y3 := e 3 (by omega)
  subst e0 e1 e2 e3
  rfl
theorem ix_lt {l : List Int} (J : Jugs l) {x : S27} (hx : watS l x) : 0 ≤ ix l x ∧ ix l x < PR l := IX_lt l _ J.jg (ins_of J.n4 hx)

end Go.Proofs.Yteciomagemjjaaa.J
