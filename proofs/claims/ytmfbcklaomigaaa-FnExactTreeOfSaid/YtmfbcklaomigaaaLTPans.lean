/- Fixed plans: balance and the pans of a letter, on both sides. -/
import Derived.Test.YtmfbcklaomigaaaLTBase
import Derived.Test.YtmfbcklaomigaaaLTOk
import Derived.Test.YtmfbcklaomigaaaMx13
import Derived.Test.YtmfbcklaomigaaaMx1
namespace Go.Proofs.Ytmfbcklaomigaaa.M
open Go.RowKit Go.Proofs.YtmfbcklaomigaaaW.PrintWords Go.Proofs.YtmfbcklaomigaaaW.PrintLast Go.Proofs.YtmfbcklaomigaaaW.PrintMore
set_option linter.unusedVariables false
set_option linter.unusedSimpArgs false
def at43 (x : S43) (i : Int) : Int := rd [x.f0, x.f1, x.f2, x.f3] i
def colS (i : Int) : List S43 → Int
  | [] => 0
  | x :: r => at43 x i + colS i r
theorem at_ok {a : Int} {x : S43} (h : zed a x.f0 x.f1 x.f2 x.f3 = true) (i : Int) (h0 : 0 ≤ i) (h4 : i < 4) : (-1 ≤ at43 x i ∧ at43 x i ≤ 1) ∧ (a ≤ i → at43 x i = 0) := by
  unfold zed okAt at h
  simp only [Bool.and_eq_true, decide_eq_true_eq] at h
  obtain ⟨a0, a1, a2, a3⟩ := h
  have hi : i = 0 ∨ i = 1 ∨ i = 2 ∨ i = 3 := by omega
  rcases hi with rfl | rfl | rfl | rfl
  · exact ⟨⟨a0.1, a0.2.1⟩, a0.2.2⟩
  · exact ⟨⟨a1.1, a1.2.1⟩, a1.2.2⟩
  · exact ⟨⟨a2.1, a2.2.1⟩, a2.2.2⟩
  · exact ⟨⟨a3.1, a3.2.1⟩, a3.2.2⟩
theorem colS_zero (i : Int) : ∀ l : List S43, (∀ x ∈ l, at43 x i = 0) → colS i l = 0 := by
  intro l
  induction l with
  | nil => intro _; rfl
  | cons x r ih =>
    intro h
    unfold colS
    rw [h x (List.mem_cons_self ..), ih (fun y hy => h y (List.mem_cons_of_mem _ hy))]; rfl
theorem sbal_l1 {a kd : Int} (l : List S43) (hn : l.length ≤ 80) (i : Int) (h0 : 0 ≤ i) (h4 : i < 4) (hw : ∀ x ∈ l, -1 ≤ at43 x i ∧ at43 x i ≤ 1) (K : Nat) (v : Bool) (hv : ∀ k, K < k → spec_l04Balanced.l0 k (IntKind.i8.wrap (i + 1)) a kd l = some v) :
    ∀ (d j : Nat) (acc : Int), j + d = l.length → -(j : Int) ≤ acc → acc ≤ j → ∀ k, K + d + 1 < k → spec_l04Balanced.l1 k i acc j a kd l = some (if acc + colS i (l.drop j) = 0 then v else false) := by
  intro d
  induction d with
  | zero =>
    intro j acc hj ha hb k hk
    obtain ⟨k, rfl⟩ : ∃ m, k = m + 1 := ⟨k - 1, by omega⟩
    rw [spec_l04Balanced.l1.eq_2, if_neg (by omega), List.drop_of_length_le (by omega)]
    show _ = some (if acc + 0 = 0 then v else false)
    rw [Int.add_zero]
    by_cases c : acc = 0
    · rw [if_pos c, if_pos c]; exact hv k (by omega)
    · rw [if_neg c, if_neg c]
  | succ d ih =>
    intro j acc hj ha hb k hk
    obtain ⟨k, rfl⟩ : ∃ m, k = m + 1 := ⟨k - 1, by omega⟩
    have hx := hw _ (zud l j (by omega))
    have e : rd [(zj l (j : Int)).f0, (zj l (j : Int)).f1, (zj l (j : Int)).f2, (zj l (j : Int)).f3] i = at43 (l.getD j z43) i := by rw [zhe]; rfl
    have w : wrap64 (acc + wrap64 (at43 (l.getD j z43) i)) = acc + at43 (l.getD j z43) i := by unfold wrap64; omega
    rw [spec_l04Balanced.l1.eq_2, if_pos (by omega), if_pos (by omega), if_pos h0, if_pos h4, e, w, zpb (j := j) (n := l.length) (by omega) (by omega), ih (j + 1) _ (by omega) (by omega) (by omega) k (by omega), znc l j (by omega)]
    show some (if acc + at43 (l.getD j z43) i + colS i (l.drop (j + 1)) = 0 then v else false) = some (if acc + (at43 (l.getD j z43) i + colS i (l.drop (j + 1))) = 0 then v else false)
    rw [Int.add_assoc]
def balF (l : List S43) : Nat → Int → Bool
  | 0, _ => true
  | e + 1, i => if colS i l = 0 then balF l e (i + 1) else false
theorem sbal_l0 {a kd : Int} (l : List S43) (hn : l.length ≤ 80) (ha : a ≤ 4) (hw : ∀ x ∈ l, ∀ i, 0 ≤ i → i < 4 → -1 ≤ at43 x i ∧ at43 x i ≤ 1) : ∀ (e : Nat) (i : Int), i + e = a → 0 ≤ i → ∀ k, 100 * e < k → spec_l04Balanced.l0 k i a kd l = some (balF l e i) := by
  intro e
  induction e with
  | zero =>
    intro i hi h0 k hk
    obtain ⟨k, rfl⟩ : ∃ m, k = m + 1 := ⟨k - 1, by omega⟩
    rw [spec_l04Balanced.l0.eq_2, if_neg (by omega)]; rfl
  | succ e ih =>
    intro i hi h0 k hk
    obtain ⟨k, rfl⟩ : ∃ m, k = m + 1 := ⟨k - 1, by omega⟩
    have w8 : IntKind.i8.wrap (i + 1) = i + 1 := Go.IntWalk.i8_in _ (by omega)
    have h := sbal_l1 (a := a) (kd := kd) l hn i h0 (by omega) (fun x hx => hw x hx i h0 (by omega)) (100 * e) (balF l e (i + 1)) (by rw [w8]; exact fun k hk => ih (i + 1) (by omega) (by omega) k hk) l.length 0 0 (by omega) (by omega) (by omega) k (by omega)
    rw [spec_l04Balanced.l0.eq_2, if_pos (by omega)]
    have h' : spec_l04Balanced.l1 k i 0 0 a kd l = some (if 0 + colS i l = 0 then balF l e (i + 1) else false) := h
    rw [h', Int.zero_add]; rfl
theorem ibal_l1 (l : List S43) (n j s0 s1 s2 s3 w0 w1 w2 w3 : Int) (k : Nat) : impl_Fixed_isBalanced.l1 (k + 1 + 1 + 1 + 1 + 1) l n j 0 s0 s1 s2 s3 w0 w1 w2 w3 = impl_Fixed_isBalanced.l0 k l n (wrap64 (j + 1)) (wrap64 (s0 + wrap64 w0)) (wrap64 (s1 + wrap64 w1)) (wrap64 (s2 + wrap64 w2)) (wrap64 (s3 + wrap64 w3)) := by
  rw [impl_Fixed_isBalanced.l1.eq_2, if_pos (by decide), if_pos (by decide), wn_0, impl_Fixed_isBalanced.l1.eq_2, if_pos (by decide), if_pos (by decide), wn_1, impl_Fixed_isBalanced.l1.eq_2, if_pos (by decide), if_pos (by decide), wn_2, impl_Fixed_isBalanced.l1.eq_2, if_pos (by decide), if_pos (by decide), wn_3, impl_Fixed_isBalanced.l1.eq_2, if_neg (by decide)]
  rfl
theorem ibal_l0 (l : List S43) (hn : l.length ≤ 80) (hw : ∀ x ∈ l, ∀ i, 0 ≤ i → i < 4 → -1 ≤ at43 x i ∧ at43 x i ≤ 1) : ∀ (d j : Nat) (s0 s1 s2 s3 : Int), j + d = l.length → (-(j : Int) ≤ s0 ∧ s0 ≤ j) → (-(j : Int) ≤ s1 ∧ s1 ≤ j) → (-(j : Int) ≤ s2 ∧ s2 ≤ j) → (-(j : Int) ≤ s3 ∧ s3 ≤ j) → ∀ k, 6 * d < k →
    impl_Fixed_isBalanced.l0 k l l.length j s0 s1 s2 s3 = some (s0 + colS 0 (l.drop j) == 0 && (s1 + colS 1 (l.drop j) == 0 && (s2 + colS 2 (l.drop j) == 0 && (s3 + colS 3 (l.drop j) == 0)))) := by
  intro d
  induction d with
  | zero =>
    intro j s0 s1 s2 s3 hj b0 b1 b2 b3 k hk
    obtain ⟨k, rfl⟩ : ∃ m, k = m + 1 := ⟨k - 1, by omega⟩
    rw [impl_Fixed_isBalanced.l0.eq_2, if_neg (by omega), List.drop_of_length_le (by omega)]
    show _ = some (s0 + 0 == 0 && (s1 + 0 == 0 && (s2 + 0 == 0 && (s3 + 0 == 0))))
    simp only [Int.add_zero]
  | succ d ih =>
    intro j s0 s1 s2 s3 hj b0 b1 b2 b3 k hk
    obtain ⟨k, rfl⟩ : ∃ m, k = m + 1 + 1 + 1 + 1 + 1 + 1 := ⟨k - 6, by omega⟩
    have hx := hw _ (zud l j (by omega))
    have x0 := hx 0 (by decide) (by decide)
    have x1 := hx 1 (by decide) (by decide)
    have x2 := hx 2 (by decide) (by decide)
    have x3 := hx 3 (by decide) (by decide)
    have q0 : at43 (l.getD j z43) 0 = (l.getD j z43).f0 := rfl
    have q1 : at43 (l.getD j z43) 1 = (l.getD j z43).f1 := rfl
    have q2 : at43 (l.getD j z43) 2 = (l.getD j z43).f2 := rfl
    have q3 : at43 (l.getD j z43) 3 = (l.getD j z43).f3 := rfl
    rw [impl_Fixed_isBalanced.l0.eq_2, if_pos (by omega), if_pos (by omega), if_pos (by omega), ibal_l1, zhe, zpb (j := j) (n := l.length) (by omega) (by omega)]
    rw [← q0, ← q1, ← q2, ← q3]
    have w0 : wrap64 (s0 + wrap64 (at43 (l.getD j z43) 0)) = s0 + at43 (l.getD j z43) 0 := by clear q0 q1 q2 q3 ih; unfold wrap64; omega
    have w1 : wrap64 (s1 + wrap64 (at43 (l.getD j z43) 1)) = s1 + at43 (l.getD j z43) 1 := by clear q0 q1 q2 q3 ih w0; unfold wrap64; omega
    have w2 : wrap64 (s2 + wrap64 (at43 (l.getD j z43) 2)) = s2 + at43 (l.getD j z43) 2 := by clear q0 q1 q2 q3 ih w0 w1; unfold wrap64; omega
    have w3 : wrap64 (s3 + wrap64 (at43 (l.getD j z43) 3)) = s3 + at43 (l.getD j z43) 3 := by clear q0 q1 q2 q3 ih w0 w1 w2; unfold wrap64; omega
    rw [w0, w1, w2, w3]
    clear w0 w1 w2 w3 q0 q1 q2 q3
    rw [ih (j + 1) _ _ _ _ (by omega) (by omega) (by omega) (by omega) (by omega) k (by omega), znc l j (by omega)]
    simp only [colS, Int.add_assoc]
theorem balanced_f {a kd : Int} (l : List S43) (ha : 1 ≤ a ∧ a ≤ 4) (hn : l.length ≤ 80) (hw : ∀ x ∈ l, zed a x.f0 x.f1 x.f2 x.f3 = true) : ∃ v, ∀ k, 1000 < k → spec_l04Balanced.f k a kd l = some v ∧ impl_Fixed_isBalanced.f k a kd l = some v := by
  have hb : ∀ x ∈ l, ∀ i, 0 ≤ i → i < 4 → -1 ≤ at43 x i ∧ at43 x i ≤ 1 := fun x hx i h0 h4 => (at_ok (hw x hx) i h0 h4).1
  have hz : ∀ i, 0 ≤ i → i < 4 → a ≤ i → colS i l = 0 := fun i h0 h4 hi => colS_zero i l (fun x hx => (at_ok (hw x hx) i h0 h4).2 hi)
  refine ⟨colS 0 l == 0 && (colS 1 l == 0 && (colS 2 l == 0 && (colS 3 l == 0))), fun k hk => ?_⟩
  unfold spec_l04Balanced.f impl_Fixed_isBalanced.f
  have e2 : impl_Fixed_isBalanced.l0 k l l.length 0 0 0 0 0 = some (0 + colS 0 l == 0 && (0 + colS 1 l == 0 && (0 + colS 2 l == 0 && (0 + colS 3 l == 0)))) := ibal_l0 l hn hb l.length 0 0 0 0 0 (by omega) (by omega) (by omega) (by omega) (by omega) k (by omega)
  simp only [Int.zero_add] at e2
  rw [e2, sbal_l0 l hn ha.2 hb a.toNat 0 (by omega) (by omega) k (by omega)]
  refine ⟨?_, rfl⟩
  have hcase : a = 1 ∨ a = 2 ∨ a = 3 ∨ a = 4 := by omega
  rcases hcase with rfl | rfl | rfl | rfl
  · rw [hz 1 (by decide) (by decide) (by decide), hz 2 (by decide) (by decide) (by decide), hz 3 (by decide) (by decide) (by decide)]
    show some (if colS 0 l = 0 then true else false) = _
    by_cases c0 : colS 0 l = 0 <;> simp [c0]
  · rw [hz 2 (by decide) (by decide) (by decide), hz 3 (by decide) (by decide) (by decide)]
    show some (if colS 0 l = 0 then (if colS 1 l = 0 then true else false) else false) = _
    by_cases c0 : colS 0 l = 0 <;> by_cases c1 : colS 1 l = 0 <;> simp [c0, c1]
  · rw [hz 3 (by decide) (by decide) (by decide)]
    show some (if colS 0 l = 0 then (if colS 1 l = 0 then (if colS 2 l = 0 then true else false) else false) else false) = _
    by_cases c0 : colS 0 l = 0 <;> by_cases c1 : colS 1 l = 0 <;> by_cases c2 : colS 2 l = 0 <;> simp [c0, c1, c2]
  · show some (if colS 0 l = 0 then (if colS 1 l = 0 then (if colS 2 l = 0 then (if colS 3 l = 0 then true else false) else false) else false) else false) = _
    by_cases c0 : colS 0 l = 0 <;> by_cases c1 : colS 1 l = 0 <;> by_cases c2 : colS 2 l = 0 <;> by_cases c3 : colS 3 l = 0 <;> simp [c0, c1, c2, c3]
theorem pans_l0 (l : List S43) (i a kd : Int) : ∀ (k : Nat) (j p0 p1 p2 p3 p4 p5 p6 p7 p8 p9 p10 p11 p12 p13 : Int), impl_Fixed_weighing.l0 k i l (l.length : Int) j p0 p1 p2 p3 p4 p5 p6 p7 p8 p9 p10 p11 p12 p13 = spec_l04Pans.l0 k i j a kd l p0 p1 p2 p3 p4 p5 p6 p7 p8 p9 p10 p11 p12 p13 := by
  intro k
  induction k with
  | zero => intro j p0 p1 p2 p3 p4 p5 p6 p7 p8 p9 p10 p11 p12 p13; rfl
  | succ k ih =>
    intro j p0 p1 p2 p3 p4 p5 p6 p7 p8 p9 p10 p11 p12 p13
    rw [impl_Fixed_weighing.l0.eq_2, spec_l04Pans.l0.eq_2]
    by_cases h : j < (l.length : Int)
    · simp only [if_pos h, ih]
    · rw [if_neg h, if_neg h]
theorem pans_some (l : List S43) (hn : l.length ≤ 13) (i : Int) (h0 : 0 ≤ i) (h4 : i < 4) : ∀ (d j : Nat) (p0 p1 p2 p3 p4 p5 p6 p7 p8 p9 p10 p11 p12 p13 : Int), j + d = l.length → ∃ t, ∀ k, d < k → impl_Fixed_weighing.l0 k i l (l.length : Int) j p0 p1 p2 p3 p4 p5 p6 p7 p8 p9 p10 p11 p12 p13 = some t := by
  intro d
  induction d with
  | zero =>
    intro j p0 p1 p2 p3 p4 p5 p6 p7 p8 p9 p10 p11 p12 p13 hj
    refine ⟨(p0, p1, p2, p3, p4, p5, p6, p7, p8, p9, p10, p11, p12, p13), fun k hk => ?_⟩
    obtain ⟨k, rfl⟩ : ∃ m, k = m + 1 := ⟨k - 1, by omega⟩
    rw [impl_Fixed_weighing.l0.eq_2, if_neg (by omega)]
  | succ d ih =>
    intro j p0 p1 p2 p3 p4 p5 p6 p7 p8 p9 p10 p11 p12 p13 hj
    have key : ∀ (q0 q1 q2 q3 q4 q5 q6 q7 q8 q9 q10 q11 q12 q13 : Int), ∃ t, ∀ k, d < k → impl_Fixed_weighing.l0 k i l (l.length : Int) ((j + 1 : Nat) : Int) q0 q1 q2 q3 q4 q5 q6 q7 q8 q9 q10 q11 q12 q13 = some t := fun q0 q1 q2 q3 q4 q5 q6 q7 q8 q9 q10 q11 q12 q13 => ih (j + 1) q0 q1 q2 q3 q4 q5 q6 q7 q8 q9 q10 q11 q12 q13 (by omega)
    obtain ⟨t, ht⟩ := key (zv (j : Int) 0 (rd [(zj l (j : Int)).f0, (zj l (j : Int)).f1, (zj l (j : Int)).f2, (zj l (j : Int)).f3] i) p0) (zv (j : Int) 1 (rd [(zj l (j : Int)).f0, (zj l (j : Int)).f1, (zj l (j : Int)).f2, (zj l (j : Int)).f3] i) p1) (zv (j : Int) 2 (rd [(zj l (j : Int)).f0, (zj l (j : Int)).f1, (zj l (j : Int)).f2, (zj l (j : Int)).f3] i) p2) (zv (j : Int) 3 (rd [(zj l (j : Int)).f0, (zj l (j : Int)).f1, (zj l (j : Int)).f2, (zj l (j : Int)).f3] i) p3) (zv (j : Int) 4 (rd [(zj l (j : Int)).f0, (zj l (j : Int)).f1, (zj l (j : Int)).f2, (zj l (j : Int)).f3] i) p4) (zv (j : Int) 5 (rd [(zj l (j : Int)).f0, (zj l (j : Int)).f1, (zj l (j : Int)).f2, (zj l (j : Int)).f3] i) p5) (zv (j : Int) 6 (rd [(zj l (j : Int)).f0, (zj l (j : Int)).f1, (zj l (j : Int)).f2, (zj l (j : Int)).f3] i) p6) (zv (j : Int) 7 (rd [(zj l (j : Int)).f0, (zj l (j : Int)).f1, (zj l (j : Int)).f2, (zj l (j : Int)).f3] i) p7) (zv (j : Int) 8 (rd [(zj l (j : Int)).f0, (zj l (j : Int)).f1, (zj l (j : Int)).f2, (zj l (j : Int)).f3] i) p8) (zv (j : Int) 9 (rd [(zj l (j : Int)).f0, (zj l (j : Int)).f1, (zj l (j : Int)).f2, (zj l (j : Int)).f3] i) p9) (zv (j : Int) 10 (rd [(zj l (j : Int)).f0, (zj l (j : Int)).f1, (zj l (j : Int)).f2, (zj l (j : Int)).f3] i) p10) (zv (j : Int) 11 (rd [(zj l (j : Int)).f0, (zj l (j : Int)).f1, (zj l (j : Int)).f2, (zj l (j : Int)).f3] i) p11) (zv (j : Int) 12 (rd [(zj l (j : Int)).f0, (zj l (j : Int)).f1, (zj l (j : Int)).f2, (zj l (j : Int)).f3] i) p12) (zv (j : Int) 13 (rd [(zj l (j : Int)).f0, (zj l (j : Int)).f1, (zj l (j : Int)).f2, (zj l (j : Int)).f3] i) p13)
    refine ⟨t, fun k hk => ?_⟩
    obtain ⟨k, rfl⟩ : ∃ m, k = m + 1 := ⟨k - 1, by omega⟩
    rw [impl_Fixed_weighing.l0.eq_2, if_pos (by omega), if_pos (by omega), if_pos (by omega), if_pos h0, if_pos h4, if_pos (by omega), zpb (j := j) (n := l.length) (by omega) (by omega)]
    exact ht k (by omega)
abbrev T14 := Int × Int × Int × Int × Int × Int × Int × Int × Int × Int × Int × Int × Int × Int
theorem pans_f (l : List S43) (hn : l.length ≤ 13) (a kd : Int) : ∃ f : Int → T14, ∀ i, 0 ≤ i → i < 4 → ∀ k, 20 < k → spec_l04Pans.f k a kd l i = some (f i) ∧ impl_Fixed_weighing.f k a kd l i = some (f i) := by
  have h : ∀ i : Int, ∃ t : T14, 0 ≤ i → i < 4 → ∀ k, 20 < k → spec_l04Pans.f k a kd l i = some t ∧ impl_Fixed_weighing.f k a kd l i = some t := by
    intro i
    by_cases c : 0 ≤ i ∧ i < 4
    · obtain ⟨t, ht⟩ := pans_some l hn i c.1 c.2 l.length 0 0 0 0 0 0 0 0 0 0 0 0 0 0 0 (by omega)
      refine ⟨t, fun _ _ k hk => ?_⟩
      have e : impl_Fixed_weighing.l0 k i l (l.length : Int) 0 0 0 0 0 0 0 0 0 0 0 0 0 0 0 = some t := ht k (by omega)
      unfold spec_l04Pans.f impl_Fixed_weighing.f
      rw [← pans_l0 l i a kd k 0 0 0 0 0 0 0 0 0 0 0 0 0 0 0]
      exact ⟨e, e⟩
    · exact ⟨(0, 0, 0, 0, 0, 0, 0, 0, 0, 0, 0, 0, 0, 0), fun h0 h4 => absurd ⟨h0, h4⟩ c⟩
  obtain ⟨f, hf⟩ := Classical.axiomOfChoice h
  exact ⟨f, hf⟩
end Go.Proofs.Ytmfbcklaomigaaa.M
