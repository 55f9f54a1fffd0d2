/- A region of reads and a store at its end, inside a fence. -/
import Derived.OrdersIn
import Derived.Test.YteciomagemjjaaaJx0
import Derived.Test.YteciomagemjjaaaWTab
namespace Go.Proofs.Yteciomagemjjaaa.J
open Go.RowKit Go.Proofs.YteciomagemjjaaaW.PrintWords Go.Proofs.YteciomagemjjaaaW.PrintLast Go.Proofs.YteciomagemjjaaaW.PrintMore
set_option linter.unusedVariables false
set_option linter.unusedSimpArgs false
def R5 : Bool × List (List Nat × List Nat) := (true, [([], []), ([], []), ([1], [1]), ([2], [2]), ([0, 3], [0, 3]), ([], []), ([5], [5]), ([6], [6]), ([7], [7]), ([4, 8], [4, 8]), ([9, 0, 1, 2, 3, 4, 5, 6, 7, 8, 9], [9])])
theorem ready5 : ∀ b0 b1 b2 b3 b4 b5 b6 b7 b8 b9 : Bool, zxd R5.2 [b0, b1, b2, b3, b4, b5, b6, b7, b8, b9, false] ≠ [] := by decide +kernel
theorem reg11 {F : Fence} {n : Nat} {P : Program} {ops : Array Oper} {Q : Exit → Act → World → Prop} {W : World} (A : Value → Value → Value → Value → Value → Value → Value → Value → Value → Value → Act) (v0 v1 v2 v3 v4 v5 v6 v7 v8 v9 : Value) (hT : rtab .any ops = R5)
    (s0 : ∀ (K : Act → World → Prop) (t0 t1 t2 t3 t4 t5 t6 t7 t8 t9 : Value), K (A v0 t1 t2 t3 t4 t5 t6 t7 t8 t9) W → wpOpIn F n P ops Q 0 K (A t0 t1 t2 t3 t4 t5 t6 t7 t8 t9) W)
    (s1 : ∀ (K : Act → World → Prop) (t0 t1 t2 t3 t4 t5 t6 t7 t8 t9 : Value), K (A t0 v1 t2 t3 t4 t5 t6 t7 t8 t9) W → wpOpIn F n P ops Q 1 K (A t0 t1 t2 t3 t4 t5 t6 t7 t8 t9) W)
    (s2 : ∀ (K : Act → World → Prop) (t0 t1 t2 t3 t4 t5 t6 t7 t8 t9 : Value), t1 = v1 → K (A t0 t1 v2 t3 t4 t5 t6 t7 t8 t9) W → wpOpIn F n P ops Q 2 K (A t0 t1 t2 t3 t4 t5 t6 t7 t8 t9) W)
    (s3 : ∀ (K : Act → World → Prop) (t0 t1 t2 t3 t4 t5 t6 t7 t8 t9 : Value), t2 = v2 → K (A t0 t1 t2 v3 t4 t5 t6 t7 t8 t9) W → wpOpIn F n P ops Q 3 K (A t0 t1 t2 t3 t4 t5 t6 t7 t8 t9) W)
    (s4 : ∀ (K : Act → World → Prop) (t0 t1 t2 t3 t4 t5 t6 t7 t8 t9 : Value), t0 = v0 → t3 = v3 → K (A t0 t1 t2 t3 v4 t5 t6 t7 t8 t9) W → wpOpIn F n P ops Q 4 K (A t0 t1 t2 t3 t4 t5 t6 t7 t8 t9) W)
    (s5 : ∀ (K : Act → World → Prop) (t0 t1 t2 t3 t4 t5 t6 t7 t8 t9 : Value), K (A t0 t1 t2 t3 t4 v5 t6 t7 t8 t9) W → wpOpIn F n P ops Q 5 K (A t0 t1 t2 t3 t4 t5 t6 t7 t8 t9) W)
    (s6 : ∀ (K : Act → World → Prop) (t0 t1 t2 t3 t4 t5 t6 t7 t8 t9 : Value), t5 = v5 → K (A t0 t1 t2 t3 t4 t5 v6 t7 t8 t9) W → wpOpIn F n P ops Q 6 K (A t0 t1 t2 t3 t4 t5 t6 t7 t8 t9) W)
    (s7 : ∀ (K : Act → World → Prop) (t0 t1 t2 t3 t4 t5 t6 t7 t8 t9 : Value), t6 = v6 → K (A t0 t1 t2 t3 t4 t5 t6 v7 t8 t9) W → wpOpIn F n P ops Q 7 K (A t0 t1 t2 t3 t4 t5 t6 t7 t8 t9) W)
    (s8 : ∀ (K : Act → World → Prop) (t0 t1 t2 t3 t4 t5 t6 t7 t8 t9 : Value), t7 = v7 → K (A t0 t1 t2 t3 t4 t5 t6 t7 v8 t9) W → wpOpIn F n P ops Q 8 K (A t0 t1 t2 t3 t4 t5 t6 t7 t8 t9) W)
    (s9 : ∀ (K : Act → World → Prop) (t0 t1 t2 t3 t4 t5 t6 t7 t8 t9 : Value), t4 = v4 → t8 = v8 → K (A t0 t1 t2 t3 t4 t5 t6 t7 t8 v9) W → wpOpIn F n P ops Q 9 K (A t0 t1 t2 t3 t4 t5 t6 t7 t8 t9) W)
    (s10 : ∀ (K : Act → World → Prop), (∀ a w, Q .normal a w → K a w) → wpOpIn F n P ops Q 10 K (A v0 v1 v2 v3 v4 v5 v6 v7 v8 v9) W) (u : Value) :
    wpAnyIn F n P .any ops Q 11 #[false, false, false, false, false, false, false, false, false, false, false] (A u u u u u u u u u u) W := by
  have key : ∀ (f : Nat) (b0 b1 b2 b3 b4 b5 b6 b7 b8 b9 : Bool) (t0 t1 t2 t3 t4 t5 t6 t7 t8 t9 : Value), (b0 = true → t0 = v0) → (b1 = true → t1 = v1) → (b2 = true → t2 = v2) → (b3 = true → t3 = v3) → (b4 = true → t4 = v4) → (b5 = true → t5 = v5) → (b6 = true → t6 = v6) → (b7 = true → t7 = v7) → (b8 = true → t8 = v8) → (b9 = true → t9 = v9) → f + b0.toNat + b1.toNat + b2.toNat + b3.toNat + b4.toNat + b5.toNat + b6.toNat + b7.toNat + b8.toNat + b9.toNat = 11 → wpAnyIn F n P .any ops Q f #[b0, b1, b2, b3, b4, b5, b6, b7, b8, b9, false] (A t0 t1 t2 t3 t4 t5 t6 t7 t8 t9) W := by
    intro f
    induction f with
    | zero =>
      intro b0 b1 b2 b3 b4 b5 b6 b7 b8 b9 t0 t1 t2 t3 t4 t5 t6 t7 t8 t9 h0 h1 h2 h3 h4 h5 h6 h7 h8 h9 hf
      have := Bool.toNat_le b0; have := Bool.toNat_le b1; have := Bool.toNat_le b2; have := Bool.toNat_le b3; have := Bool.toNat_le b4; have := Bool.toNat_le b5; have := Bool.toNat_le b6; have := Bool.toNat_le b7; have := Bool.toNat_le b8; have := Bool.toNat_le b9
      omega
    | succ f ih =>
      intro b0 b1 b2 b3 b4 b5 b6 b7 b8 b9 t0 t1 t2 t3 t4 t5 t6 t7 t8 t9 h0 h1 h2 h3 h4 h5 h6 h7 h8 h9 hf
      refine ⟨fun hr => ?_, fun i hi => ?_⟩
      · rw [zgc, hT] at hr
        exact absurd hr (ready5 b0 b1 b2 b3 b4 b5 b6 b7 b8 b9)
      · rw [zgc, hT] at hi
        have hi2 := List.mem_filter.mp hi
        have hlt : i < 11 := by have := List.mem_range.mp hi2.1; simpa [R5] using this
        have hat := hi2.2
        clear hi hi2
        have e11 : i = 0 ∨ i = 1 ∨ i = 2 ∨ i = 3 ∨ i = 4 ∨ i = 5 ∨ i = 6 ∨ i = 7 ∨ i = 8 ∨ i = 9 ∨ i = 10 := by omega
        rcases e11 with rfl | rfl | rfl | rfl | rfl | rfl | rfl | rfl | rfl | rfl | rfl
        · have hb : b0 = false := by simpa [zbb, R5, and_assoc] using hat
          subst hb
          refine s0 _ t0 t1 t2 t3 t4 t5 t6 t7 t8 t9 ?_
          exact ih true b1 b2 b3 b4 b5 b6 b7 b8 b9 v0 t1 t2 t3 t4 t5 t6 t7 t8 t9 (fun _ => rfl) h1 h2 h3 h4 h5 h6 h7 h8 h9 (by simp at hf ⊢; omega)
        · have hb : b1 = false := by simpa [zbb, R5, and_assoc] using hat
          subst hb
          refine s1 _ t0 t1 t2 t3 t4 t5 t6 t7 t8 t9 ?_
          exact ih b0 true b2 b3 b4 b5 b6 b7 b8 b9 t0 v1 t2 t3 t4 t5 t6 t7 t8 t9 h0 (fun _ => rfl) h2 h3 h4 h5 h6 h7 h8 h9 (by simp at hf ⊢; omega)
        · have hb : b2 = false ∧ b1 = true := by simpa [zbb, R5, and_assoc] using hat
          obtain ⟨hb, e1⟩ := hb
          subst hb
          refine s2 _ t0 t1 t2 t3 t4 t5 t6 t7 t8 t9 (h1 e1) ?_
          exact ih b0 b1 true b3 b4 b5 b6 b7 b8 b9 t0 t1 v2 t3 t4 t5 t6 t7 t8 t9 h0 h1 (fun _ => rfl) h3 h4 h5 h6 h7 h8 h9 (by simp at hf ⊢; omega)
        · have hb : b3 = false ∧ b2 = true := by simpa [zbb, R5, and_assoc] using hat
          obtain ⟨hb, e2⟩ := hb
          subst hb
          refine s3 _ t0 t1 t2 t3 t4 t5 t6 t7 t8 t9 (h2 e2) ?_
          exact ih b0 b1 b2 true b4 b5 b6 b7 b8 b9 t0 t1 t2 v3 t4 t5 t6 t7 t8 t9 h0 h1 h2 (fun _ => rfl) h4 h5 h6 h7 h8 h9 (by simp at hf ⊢; omega)
        · have hb : b4 = false ∧ b0 = true ∧ b3 = true := by simpa [zbb, R5, and_assoc] using hat
          obtain ⟨hb, e0, e3⟩ := hb
          subst hb
          refine s4 _ t0 t1 t2 t3 t4 t5 t6 t7 t8 t9 (h0 e0) (h3 e3) ?_
          exact ih b0 b1 b2 b3 true b5 b6 b7 b8 b9 t0 t1 t2 t3 v4 t5 t6 t7 t8 t9 h0 h1 h2 h3 (fun _ => rfl) h5 h6 h7 h8 h9 (by simp at hf ⊢; omega)
        · have hb : b5 = false := by simpa [zbb, R5, and_assoc] using hat
          subst hb
          refine s5 _ t0 t1 t2 t3 t4 t5 t6 t7 t8 t9 ?_
          exact ih b0 b1 b2 b3 b4 true b6 b7 b8 b9 t0 t1 t2 t3 t4 v5 t6 t7 t8 t9 h0 h1 h2 h3 h4 (fun _ => rfl) h6 h7 h8 h9 (by simp at hf ⊢; omega)
        · have hb : b6 = false ∧ b5 = true := by simpa [zbb, R5, and_assoc] using hat
          obtain ⟨hb, e5⟩ := hb
          subst hb
          refine s6 _ t0 t1 t2 t3 t4 t5 t6 t7 t8 t9 (h5 e5) ?_
          exact ih b0 b1 b2 b3 b4 b5 true b7 b8 b9 t0 t1 t2 t3 t4 t5 v6 t7 t8 t9 h0 h1 h2 h3 h4 h5 (fun _ => rfl) h7 h8 h9 (by simp at hf ⊢; omega)
        · have hb : b7 = false ∧ b6 = true := by simpa [zbb, R5, and_assoc] using hat
          obtain ⟨hb, e6⟩ := hb
          subst hb
          refine s7 _ t0 t1 t2 t3 t4 t5 t6 t7 t8 t9 (h6 e6) ?_
          exact ih b0 b1 b2 b3 b4 b5 b6 true b8 b9 t0 t1 t2 t3 t4 t5 t6 v7 t8 t9 h0 h1 h2 h3 h4 h5 h6 (fun _ => rfl) h8 h9 (by simp at hf ⊢; omega)
        · have hb : b8 = false ∧ b7 = true := by simpa [zbb, R5, and_assoc] using hat
          obtain ⟨hb, e7⟩ := hb
          subst hb
          refine s8 _ t0 t1 t2 t3 t4 t5 t6 t7 t8 t9 (h7 e7) ?_
          exact ih b0 b1 b2 b3 b4 b5 b6 b7 true b9 t0 t1 t2 t3 t4 t5 t6 t7 v8 t9 h0 h1 h2 h3 h4 h5 h6 h7 (fun _ => rfl) h9 (by simp at hf ⊢; omega)
        · have hb : b9 = false ∧ b4 = true ∧ b8 = true := by simpa [zbb, R5, and_assoc] using hat
          obtain ⟨hb, e4, e8⟩ := hb
          subst hb
          refine s9 _ t0 t1 t2 t3 t4 t5 t6 t7 t8 t9 (h4 e4) (h8 e8) ?_
          exact ih b0 b1 b2 b3 b4 b5 b6 b7 b8 true t0 t1 t2 t3 t4 t5 t6 t7 t8 v9 h0 h1 h2 h3 h4 h5 h6 h7 h8 (fun _ => rfl) (by simp at hf ⊢; omega)
        · have hb : b9 = true ∧ b0 = true ∧ b1 = true ∧ b2 = true ∧ b3 = true ∧ b4 = true ∧ b5 = true ∧ b6 = true ∧ b7 = true ∧ b8 = true ∧ b9 = true := by simpa [zbb, R5, and_assoc] using hat
          obtain ⟨_, e0, e1, e2, e3, e4, e5, e6, e7, e8, e9⟩ := hb
          obtain rfl := h0 e0
          obtain rfl := h1 e1
          obtain rfl := h2 e2
          obtain rfl := h3 e3
          obtain rfl := h4 e4
          obtain rfl := h5 e5
          obtain rfl := h6 e6
          obtain rfl := h7 e7
          obtain rfl := h8 e8
          obtain rfl := h9 e9
          subst e0 e1 e2 e3 e4 e5 e6 e7 e8 e9
          refine s10 _ (fun a w hq => ?_)
          exact wpAnyIn_done (by rw [zgc, hT]; decide) hq f
  exact key 11 false false false false false false false false false false u u u u u u u u u u (fun h => by cases h) (fun h => by cases h) (fun h => by cases h) (fun h => by cases h) (fun h => by cases h) (fun h => by cases h) (fun h => by cases h) (fun h => by cases h) (fun h => by cases h) (fun h => by cases h) rfl
end Go.Proofs.Yteciomagemjjaaa.J
