/- The way to a water of the queue, on both sides. -/
import Derived.Test.YteciomagemjjaaaLL2wJ
import Derived.Test.YteciomagemjjaaaLMvqJ
import Derived.Test.YteciomagemjjaaaLSrcJ
import Derived.Test.YteciomagemjjaaaLWayJ
namespace Go.Proofs.Yteciomagemjjaaa.J
open Go.RowKit Go.Proofs.YteciomagemjjaaaW.PrintWords Go.Proofs.YteciomagemjjaaaW.PrintLast Go.Proofs.YteciomagemjjaaaW.PrintMore
set_option linter.unusedVariables false
set_option linter.unusedSimpArgs false

theorem rd80_get (xs : List S80) (m : Nat) (h : m < xs.length) : zh xs (m : Int) = xs[m] := by
  unfold zh
  rw [Int.toNat_natCast, List.getD_eq_getElem?_getD, List.getElem?_eq_getElem h, Option.getD_some]
theorem rev_end (l xs : List S80) (i : Nat) (hx : xs.length = l.length) (hi : l.length ≤ 2 * i + 1) (h1 : ∀ m : Nat, m < l.length → (m < i ∨ l.length ≤ m + i) → zh xs (m : Int) = zh l ((l.length - 1 - m : Nat) : Int)) (h2 : ∀ m : Nat, i ≤ m → m + i < l.length → zh xs (m : Int) = zh l (m : Int)) : xs = l.reverse := by
  refine List.ext_getElem (by rw [hx, List.length_reverse]) (fun m a b => ?_)
  rw [List.getElem_reverse, ← rd80_get xs m a, ← rd80_get l _ (by omega)]
  by_cases c : m < i ∨ l.length ≤ m + i
  · exact h1 m (by omega) c
  · rw [h2 m (by omega) (by omega)]
    congr 2
    omega
theorem rev_l0 (l : List S80) (hl : l.length ≤ 100000) : ∀ (e i : Nat) (xs : List S80), l.length ≤ 2 * i + 2 * e + 1 → 2 * i ≤ l.length → xs.length = l.length → (∀ m : Nat, m < l.length → (m < i ∨ l.length ≤ m + i) → zh xs (m : Int) = zh l ((l.length - 1 - m : Nat) : Int)) → (∀ m : Nat, i ≤ m → m + i < l.length → zh xs (m : Int) = zh l (m : Int)) →
    ∀ k, e < k → slices_ReverseM.l0 k xs (i : Int) ((l.length : Int) - 1 - (i : Int)) = some l.reverse := by
  intro e
  induction e with
  | zero =>
    intro i xs hi h0 hx h1 h2 k hk
    obtain ⟨k, rfl⟩ : ∃ m, k = m + 1 := ⟨k - 1, by omega⟩
    have n1 : ¬ ((i : Int) < (l.length : Int) - 1 - (i : Int)) := by omega
    simp only [slices_ReverseM.l0]
    rw [if_neg n1, rev_end l xs i hx (by omega) h1 h2]
  | succ e ih =>
    intro i xs hi h0 hx h1 h2 k hk
    obtain ⟨k, rfl⟩ : ∃ m, k = m + 1 := ⟨k - 1, by omega⟩
    by_cases c : 2 * i + 1 < l.length
    · obtain ⟨j, hj⟩ : ∃ j : Nat, j = l.length - 1 - i := ⟨_, rfl⟩
      have ej : (l.length : Int) - 1 - (i : Int) = (j : Int) := by omega
      have p1 : (i : Int) < (j : Int) := by omega
      have p2 : 0 ≤ (j : Int) := by omega
      have p3 : (j : Int) < (xs.length : Int) := by omega
      have p4 : 0 ≤ (i : Int) := by omega
      have p5 : (i : Int) < (xs.length : Int) := by omega
      have w1 : wrap64 ((i : Int) + 1) = ((i + 1 : Nat) : Int) := by unfold wrap64; omega
      have w2 : wrap64 ((j : Int) - 1) = (l.length : Int) - 1 - ((i + 1 : Nat) : Int) := by unfold wrap64; omega
      simp only [slices_ReverseM.l0]
      rw [ej, if_pos p1, if_pos p2, if_pos p3, if_pos p4, if_pos p5, w1, w2]
      have set1 : ∀ m : Nat, m < l.length → zh ((xs.set ((i : Int)).toNat (zh xs (j : Int))).set ((j : Int)).toNat (zh xs (i : Int))) (m : Int) = if m = j then zh xs (i : Int) else if m = i then zh xs (j : Int) else zh xs (m : Int) := by
        intro m hm
        by_cases e1 : m = j
        · subst e1
          rw [if_pos rfl]
          exact zdc _ _ _ p2 (by rw [List.length_set]; exact p3)
        · rw [if_neg e1, zpc _ _ _ _ p2 (by omega) (by omega)]
          by_cases e2 : m = i
          · subst e2
            rw [if_pos rfl]
            exact zdc _ _ _ p4 p5
          · rw [if_neg e2, zpc _ _ _ _ p4 (by omega) (by omega)]
      refine ih (i + 1) _ (by omega) (by omega) (by rw [List.length_set, List.length_set]; exact hx) (fun m hm hc => ?_) (fun m hm hc => ?_) k (by omega)
      · rw [set1 m hm]
        by_cases e1 : m = j
        · rw [if_pos e1, h2 i (by omega) (by omega)]
          congr 2
          omega
        · rw [if_neg e1]
          by_cases e2 : m = i
          · rw [if_pos e2, h2 j (by omega) (by omega)]
            congr 2
            omega
          · rw [if_neg e2]
            exact h1 m hm (by omega)
      · rw [set1 m (by omega), if_neg (by omega), if_neg (by omega)]
        exact h2 m (by omega) (by omega)
    · have n1 : ¬ ((i : Int) < (l.length : Int) - 1 - (i : Int)) := by omega
      simp only [slices_ReverseM.l0]
      rw [if_neg n1, rev_end l xs i hx (by omega) h1 h2]
theorem rev_f (l : List S80) (hl : l.length ≤ 100000) (k : Nat) (hk : l.length < k) : slices_ReverseM.f k l = some l.reverse := by
  have h := rev_l0 l hl l.length 0 l (by omega) (by omega) rfl (fun m hm hc => by omega) (fun m _ _ => rfl) k hk
  have e : wrap64 ((l.length : Int) - 1) = (l.length : Int) - 1 - ((0 : Nat) : Int) := by unfold wrap64; omega
  unfold slices_ReverseM.f
  rw [e]
  exact h
/-- The moves from element i of the queue back to the first. -/
def back (q : List S82) : Nat → Nat → List S80
  | 0, _ => []
  | n + 1, i => if i = 0 then [] else (zq q (i : Int)).f2 :: back q n (zq q (i : Int)).f1.toNat
theorem back_len (q : List S82) : ∀ n i, (back q n i).length ≤ n := by
  intro n
  induction n with
  | zero => intro i; simp [back]
  | succ n ih =>
    intro i
    unfold back
    split
    · simp
    · have := ih (zq q (i : Int)).f1.toNat
      simp only [List.length_cons]
      omega
section
variable {l : List Int} {P : Nat} {s : S27} {q : List S82} {t f : List Int} {bb : List S80}
theorem way_i (R : Rel l P s q t f bb) (hq : q.length ≤ 5000) : ∀ (n i : Nat) (acc : List S80), i < q.length → i ≤ n → acc.length + n ≤ 10000 → ∀ k, 2 * n + acc.length + 2 < k → impl_Puzzle_wayTo.l0 k q (i : Int) acc = some ((acc ++ back q n i).reverse, 0) := by
  intro n
  induction n with
  | zero =>
    intro i acc hi hn ha k hk
    obtain rfl : i = 0 := by omega
    obtain ⟨k, rfl⟩ : ∃ m, k = m + 1 := ⟨k - 1, by omega⟩
    have p0 : 0 ≤ ((0 : Nat) : Int) := by omega
    have p1 : ((0 : Nat) : Int) < (q.length : Int) := by omega
    have n1 : ¬ ((zq q ((0 : Nat) : Int)).f1 ≥ 0) := by
      have := R.hd.2
      rw [show ((0 : Nat) : Int) = 0 from rfl, this]
      show ¬ ((-1 : Int) ≥ 0)
      decide
    simp only [impl_Puzzle_wayTo.l0]
    rw [if_pos p0, if_pos p1, if_neg n1, rev_f acc (by omega) k (by omega)]
    simp [back]
  | succ n ih =>
    intro i acc hi hn ha k hk
    obtain ⟨k, rfl⟩ : ∃ m, k = m + 1 := ⟨k - 1, by omega⟩
    have p0 : 0 ≤ (i : Int) := by omega
    have p1 : (i : Int) < (q.length : Int) := by omega
    by_cases c : i = 0
    · subst c
      have n1 : ¬ ((zq q ((0 : Nat) : Int)).f1 ≥ 0) := by
        have := R.hd.2
        rw [show ((0 : Nat) : Int) = 0 from rfl, this]
        show ¬ ((-1 : Int) ≥ 0)
        decide
      simp only [impl_Puzzle_wayTo.l0]
      rw [if_pos p0, if_pos p1, if_neg n1, rev_f acc (by omega) k (by omega)]
      simp [back]
    · obtain ⟨p, hp, e1, -, -, -⟩ := R.par i (by omega) hi
      have n1 : (zq q (i : Int)).f1 ≥ 0 := by omega
      have ll : acc.length < 46912496118442 := by omega
      simp only [impl_Puzzle_wayTo.l0]
      rw [if_pos p0, if_pos p1, if_pos n1, if_pos ll, e1]
      have h := ih p (acc ++ [(zq q (i : Int)).f2]) (by omega) (by omega) (by simp; omega) k (by simp; omega)
      rw [show back q (n + 1) i = (zq q (i : Int)).f2 :: back q n p by rw [back, if_neg c, e1, Int.toNat_natCast]]
      rw [show acc ++ (zq q (i : Int)).f2 :: back q n p = acc ++ [(zq q (i : Int)).f2] ++ back q n p by simp]
      exact h
theorem way_s (R : Rel l P s q t f bb) (J : Jugs l) (hP : (P : Int) = PR l) (hq : q.length ≤ 5000) : ∀ (n i : Nat) (acc : List S80), i < q.length → i ≤ n → acc.length + n ≤ 10000 → ∀ k, n + 1 < k → spec_l02Way.l0 k t (ix l (zq q (i : Int)).f0) bb f acc = some ((back q n i).reverse ++ acc) := by
  have tl := R.tl
  have fl := R.fl
  have bl := R.bl
  have st : ∀ (i : Nat), i < q.length → 0 ≤ ix l (zq q (i : Int)).f0 ∧ ix l (zq q (i : Int)).f0 < (P : Int) ∧ rd t (ix l (zq q (i : Int)).f0) = (zq q (i : Int)).f3 := fun i hi => by
    have hm := zec q i hi
    have := ix_lt J (R.val _ hm)
    exact ⟨this.1, by omega, R.tab _ hm⟩
  have z0 : (zq q ((0 : Nat) : Int)).f3 = 0 := by
    have := R.hd.2
    rw [show ((0 : Nat) : Int) = 0 from rfl, this]
  intro n
  induction n with
  | zero =>
    intro i acc hi hn ha k hk
    obtain rfl : i = 0 := by omega
    obtain ⟨k, rfl⟩ : ∃ m, k = m + 1 := ⟨k - 1, by omega⟩
    obtain ⟨s0, s1, s2⟩ := st 0 hi
    have s1' : ix l (zq q ((0 : Nat) : Int)).f0 < (t.length : Int) := by omega
    have n1 : ¬ (rd t (ix l (zq q ((0 : Nat) : Int)).f0) > 0) := by rw [s2, z0]; decide
    simp only [spec_l02Way.l0]
    rw [if_pos s0, if_pos s1', if_neg n1]
    simp [back]
  | succ n ih =>
    intro i acc hi hn ha k hk
    obtain ⟨k, rfl⟩ : ∃ m, k = m + 1 := ⟨k - 1, by omega⟩
    obtain ⟨s0, s1, s2⟩ := st i hi
    have s1t : ix l (zq q (i : Int)).f0 < (t.length : Int) := by omega
    by_cases c : i = 0
    · subst c
      have n1 : ¬ (rd t (ix l (zq q ((0 : Nat) : Int)).f0) > 0) := by rw [s2, z0]; decide
      simp only [spec_l02Way.l0]
      rw [if_pos s0, if_pos s1t, if_neg n1]
      simp [back]
    · obtain ⟨p, hp, e1, e2, e3, e4⟩ := R.par i (by omega) hi
      have pp := R.pos _ (zec q p (by omega))
      have n1 : rd t (ix l (zq q (i : Int)).f0) > 0 := by rw [s2, e4]; omega
      have s1f : ix l (zq q (i : Int)).f0 < (f.length : Int) := by omega
      have s1b : ix l (zq q (i : Int)).f0 < (bb.length : Int) := by omega
      have ll : ([(zh bb (ix l (zq q (i : Int)).f0) : S80)] : List S80).length + acc.length < 46912496118442 := by simp; omega
      simp only [spec_l02Way.l0]
      rw [if_pos s0, if_pos s1t, if_pos n1, if_pos s1b]
      simp only [Option.bind_some]
      rw [if_pos ll, if_pos s1f, e2, e3]
      have h := ih p ([(zq q (i : Int)).f2] ++ acc) (by omega) (by omega) (by simp; omega) k (by omega)
      rw [show back q (n + 1) i = (zq q (i : Int)).f2 :: back q n p by rw [back, if_neg c, e1, Int.toNat_natCast], List.reverse_cons, List.append_assoc]
      exact h
end
theorem fIdx_f (p : S27 → Bool) : ∀ (q : List S82) (n : Nat), (fIdx p q n = -1 ∧ ∀ e ∈ q, p e.f0 = false) ∨ ∃ i : Nat, i < q.length ∧ fIdx p q n = ((n + i : Nat) : Int) ∧ p (zq q (i : Int)).f0 = true ∧ ∀ j : Nat, j < i → p (zq q (j : Int)).f0 = false := by
  intro q
  induction q with
  | nil => intro n; exact Or.inl ⟨rfl, fun e he => by cases he⟩
  | cons e q ih =>
    intro n
    have sh : ∀ j : Nat, zq (e :: q) ((j + 1 : Nat) : Int) = zq q (j : Int) := fun j => by unfold zq; simp [List.getD_eq_getElem?_getD]
    rw [fIdx_cons]
    by_cases h : p e.f0 = true
    · rw [if_pos h]
      exact Or.inr ⟨0, by simp, by simp, h, fun j hj => by omega⟩
    · rw [if_neg h]
      have h' : p e.f0 = false := Bool.eq_false_iff.mpr h
      rcases ih (n + 1) with ⟨h1, h2⟩ | ⟨i, h1, h2, h3, h4⟩
      · refine Or.inl ⟨h1, fun x hx => ?_⟩
        rcases List.mem_cons.mp hx with rfl | hx
        · exact h'
        · exact h2 x hx
      · refine Or.inr ⟨i + 1, by simpa using h1, by rw [h2]; congr 1; omega, by rw [sh]; exact h3, fun j hj => ?_⟩
        cases j with
        | zero => exact h'
        | succ j => rw [sh]; exact h4 j (by omega)
theorem eqMoves_l0 (t : List S80) (ht : t.length ≤ 100000) : ∀ (d j : Nat), j + d = t.length → ∀ k, d < k → laws_eqMoveS.l0 k t t (j : Int) = some true := by
  intro d
  induction d with
  | zero =>
    intro j hj k hk
    obtain ⟨k, rfl⟩ : ∃ m, k = m + 1 := ⟨k - 1, by omega⟩
    have n1 : ¬ ((j : Int) < (t.length : Int)) := by omega
    simp only [laws_eqMoveS.l0]
    rw [if_neg n1]
  | succ d ih =>
    intro j hj k hk
    obtain ⟨k, rfl⟩ : ∃ m, k = m + 1 := ⟨k - 1, by omega⟩
    have p1 : (j : Int) < (t.length : Int) := by omega
    have p0 : 0 ≤ (j : Int) := by omega
    have w2 : wrap64 ((j : Int) + 1) = ((j + 1 : Nat) : Int) := by unfold wrap64; omega
    simp only [laws_eqMoveS.l0]
    rw [if_pos p1, if_pos p0, if_pos p1, w2]
    unfold laws_eqMove.f
    rw [if_pos rfl, if_pos rfl, if_pos rfl]
    simp only [Option.bind_some, if_true]
    exact ih (j + 1) (by omega) k (by omega)
theorem eqMoves_f (t : List S80) (ht : t.length ≤ 100000) (k : Nat) (hk : t.length < k) : laws_eqMoveS.f k t t = some true := by
  unfold laws_eqMoveS.f
  rw [if_pos rfl]
  exact eqMoves_l0 t ht t.length 0 (by omega) k hk
/-- What a mark at element m of a list of moves writes. -/
def mk80 (m : Nat) : S80 := ⟨IntKind.i8.wrap (1 + 3 * (m : Int)), IntKind.i8.wrap (2 + 3 * (m : Int)), IntKind.i8.wrap (3 + 3 * (m : Int))⟩
theorem markM_l0 : ∀ (d : Nat) (xs : List S80) (j : Nat), j + d = xs.length → xs.length ≤ 100000 → ∃ ys : List S80, ys.length = xs.length ∧ (∀ m : Nat, m < j → zh ys (m : Int) = zh xs (m : Int)) ∧ (∀ m : Nat, j ≤ m → m < xs.length → zh ys (m : Int) = mk80 m) ∧
    ∀ k, d < k → laws_markMoveS.l0 k xs (1 + 3 * (j : Int)) (j : Int) = some (1 + 3 * (xs.length : Int), ys) := by
  intro d
  induction d with
  | zero =>
    intro xs j hj hl
    refine ⟨xs, rfl, fun m _ => rfl, fun m h1 h2 => by omega, fun k hk => ?_⟩
    obtain ⟨k, rfl⟩ : ∃ m, k = m + 1 := ⟨k - 1, by omega⟩
    have e : j = xs.length := by omega
    subst e
    have n1 : ¬ ((xs.length : Int) < (xs.length : Int)) := by omega
    simp only [laws_markMoveS.l0]
    rw [if_neg n1]
  | succ d ih =>
    intro xs j hj hl
    have p1 : (j : Int) < (xs.length : Int) := by omega
    have p0 : 0 ≤ (j : Int) := by omega
    have w1 : wrap64 ((1 : Int) + 3 * (j : Int) + 1) = 2 + 3 * (j : Int) := by unfold wrap64; omega
    have w3 : wrap64 ((2 : Int) + 3 * (j : Int) + 1) = 3 + 3 * (j : Int) := by unfold wrap64; omega
    have w4 : wrap64 ((3 : Int) + 3 * (j : Int) + 1) = 1 + 3 * ((j + 1 : Nat) : Int) := by unfold wrap64; omega
    have w2 : wrap64 ((j : Int) + 1) = ((j + 1 : Nat) : Int) := by unfold wrap64; omega
    have s1 : ∀ v : S80, ∀ zs : List S80, zs.length = xs.length → zh (zs.set ((j : Int)).toNat v) (j : Int) = v := fun v zs hz => zdc zs (j : Int) v p0 (by omega)
    have hset : ∀ u v : S80, (xs.set ((j : Int)).toNat u).set ((j : Int)).toNat v = xs.set ((j : Int)).toNat v := fun u v => List.set_set ..
    obtain ⟨ys, y1, y2, y3, y4⟩ := ih (xs.set ((j : Int)).toNat (mk80 j)) (j + 1) (by rw [List.length_set]; omega) (by rw [List.length_set]; exact hl)
    rw [List.length_set] at y1 y3 y4
    refine ⟨ys, y1, fun m hm => ?_, fun m h1 h2 => ?_, fun k hk => ?_⟩
    · rw [y2 m (by omega)]
      exact zpc xs (j : Int) (m : Int) _ p0 (by omega) (by omega)
    · by_cases e : m = j
      · subst e
        rw [y2 m (by omega), s1 _ xs rfl]
      · exact y3 m (by omega) h2
    · obtain ⟨k, rfl⟩ : ∃ m, k = m + 1 := ⟨k - 1, by omega⟩
      have := y4 k (by omega)
      simp only [laws_markMoveS.l0]
      rw [if_pos p1, if_pos p0]
      simp only [Option.bind_some, w1, w3, w4, w2, hset, s1 _ xs rfl]
      exact this
theorem heldM_l0 (ys : List S80) (hl : ys.length ≤ 100000) (h : ∀ m : Nat, m < ys.length → zh ys (m : Int) = mk80 m) : ∀ (d j : Nat), j + d = ys.length → ∀ k, d < k → laws_heldMoveS.l0 k ys (1 + 3 * (j : Int)) (j : Int) = some (1 + 3 * (ys.length : Int)) := by
  intro d
  induction d with
  | zero =>
    intro j hj k hk
    obtain ⟨k, rfl⟩ : ∃ m, k = m + 1 := ⟨k - 1, by omega⟩
    have e : j = ys.length := by omega
    subst e
    have n1 : ¬ ((ys.length : Int) < (ys.length : Int)) := by omega
    simp only [laws_heldMoveS.l0]
    rw [if_neg n1]
  | succ d ih =>
    intro j hj k hk
    obtain ⟨k, rfl⟩ : ∃ m, k = m + 1 := ⟨k - 1, by omega⟩
    have p1 : (j : Int) < (ys.length : Int) := by omega
    have p0 : 0 ≤ (j : Int) := by omega
    have w1 : wrap64 ((1 : Int) + 3 * (j : Int) + 1) = 2 + 3 * (j : Int) := by unfold wrap64; omega
    have w3 : wrap64 ((2 : Int) + 3 * (j : Int) + 1) = 3 + 3 * (j : Int) := by unfold wrap64; omega
    have w4 : wrap64 ((3 : Int) + 3 * (j : Int) + 1) = 1 + 3 * ((j + 1 : Nat) : Int) := by unfold wrap64; omega
    have w2 : wrap64 ((j : Int) + 1) = ((j + 1 : Nat) : Int) := by unfold wrap64; omega
    have hj' := h j (by omega)
    have q0 : (zh ys (j : Int)).f0 = IntKind.i8.wrap (1 + 3 * (j : Int)) := by rw [hj']; rfl
    have q1 : (zh ys (j : Int)).f1 = IntKind.i8.wrap (2 + 3 * (j : Int)) := by rw [hj']; rfl
    have q2 : (zh ys (j : Int)).f2 = IntKind.i8.wrap (3 + 3 * (j : Int)) := by rw [hj']; rfl
    have := ih (j + 1) (by omega) k (by omega)
    simp only [laws_heldMoveS.l0]
    rw [if_pos p1, if_pos p0, w1, w3, w4, w2, if_pos q0, if_pos q1, if_pos q2]
    exact this
theorem markedM (xs : List S80) (hl : xs.length ≤ 100000) : ∃ ys : List S80, ys.length = xs.length ∧ (∀ k, xs.length < k → laws_markMoveS.f k xs 1 = some (1 + 3 * (xs.length : Int), ys)) ∧ ∀ k, xs.length < k → laws_heldMoveS.f k ys 1 = some (1 + 3 * (xs.length : Int)) := by
  obtain ⟨ys, y1, -, y3, y4⟩ := markM_l0 xs.length xs 0 (by omega) hl
  refine ⟨ys, y1, fun k hk => ?_, fun k hk => ?_⟩
  · have := y4 k hk
    exact this
  · have := heldM_l0 ys (by omega) (fun m hm => y3 m (by omega) (by omega)) ys.length 0 (by omega) k (by omega)
    rw [y1] at this
    exact this

end Go.Proofs.Yteciomagemjjaaa.J
