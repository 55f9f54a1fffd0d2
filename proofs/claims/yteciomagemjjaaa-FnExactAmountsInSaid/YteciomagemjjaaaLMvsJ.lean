/- The moves of both sides. -/
import Derived.Test.YteciomagemjjaaaJx12
import Derived.Test.YteciomagemjjaaaJx4
import Derived.Test.YteciomagemjjaaaJx5
import Derived.Test.YteciomagemjjaaaLFindJ
import Derived.Test.YteciomagemjjaaaLIdxJ
import Derived.Test.YteciomagemjjaaaLMovedJ
import Derived.Test.YteciomagemjjaaaLSearchJ
namespace Go.Proofs.Yteciomagemjjaaa.J
open Go.RowKit Go.Proofs.YteciomagemjjaaaW.PrintWords Go.Proofs.YteciomagemjjaaaW.PrintLast Go.Proofs.YteciomagemjjaaaW.PrintMore
set_option linter.unusedVariables false
set_option linter.unusedSimpArgs false

def CUBE (n : Nat) : List S80 := ([0, 1, 2] : List Int).flatMap fun kd => (List.range' 0 n).flatMap fun (i : Nat) => (List.range' 0 n).map fun (t : Nat) => (⟨kd, (i : Int), (t : Int)⟩ : S80)
def isM (m : S80) : Bool := m.f0 == 0 || m.f2 == 0
def ALL (n : Nat) : List S80 := (CUBE n).filter isM
theorem all_1 (k : Nat) : spec_l02All.l0 (k + 60) ([] : List S80) 1 0 = some (ALL 1) := by kernel_rfl
theorem all_2 (k : Nat) : spec_l02All.l0 (k + 60) ([] : List S80) 2 0 = some (ALL 2) := by kernel_rfl
theorem all_3 (k : Nat) : spec_l02All.l0 (k + 60) ([] : List S80) 3 0 = some (ALL 3) := by kernel_rfl
theorem all_4 (k : Nat) : spec_l02All.l0 (k + 60) ([] : List S80) 4 0 = some (ALL 4) := by kernel_rfl
theorem all_f {l : List Int} (J : Jugs l) (a b c d : Int) (tap : Bool) (k : Nat) (hk : 60 < k) : spec_l02All.f k l a b c d tap = some (ALL l.length) := by
  obtain ⟨k, rfl⟩ : ∃ m, k = m + 60 := ⟨k - 60, by omega⟩
  have h1 := J.n1
  have h2 := J.n4
  unfold spec_l02All.f
  have : l.length = 1 ∨ l.length = 2 ∨ l.length = 3 ∨ l.length = 4 := by omega
  rcases this with h | h | h | h <;> rw [h]
  · exact all_1 k
  · exact all_2 k
  · exact all_3 k
  · exact all_4 k
/-- A move of the cube. -/
def cub (n : Nat) (m : S80) : Prop := (m.f0 = 0 ∨ m.f0 = 1 ∨ m.f0 = 2) ∧ (0 ≤ m.f1 ∧ m.f1 < n) ∧ (0 ≤ m.f2 ∧ m.f2 < n)
theorem cub_of {n : Nat} {m : S80} (h : m ∈ CUBE n) : cub n m := by
  unfold CUBE at h
  obtain ⟨kd, hk, h⟩ := List.mem_flatMap.mp h
  obtain ⟨i, hi, h⟩ := List.mem_flatMap.mp h
  obtain ⟨t, ht, rfl⟩ := List.mem_map.mp h
  have h1 := List.mem_range'_1.mp hi
  have h2 := List.mem_range'_1.mp ht
  simp only [List.mem_cons, List.not_mem_nil, or_false] at hk
  exact ⟨hk, by dsimp only; omega, by dsimp only; omega⟩
/-- The water behind a move, and whether it can be made. -/
def mvI (l : List Int) (tap : Bool) (w : S27) (m : S80) : S27 × Bool :=
  if m.f0 = 0 then (⟨(mvP l w.f0 w.f1 w.f2 w.f3 m.f1 m.f2).1, (mvP l w.f0 w.f1 w.f2 w.f3 m.f1 m.f2).2.1, (mvP l w.f0 w.f1 w.f2 w.f3 m.f1 m.f2).2.2.1, (mvP l w.f0 w.f1 w.f2 w.f3 m.f1 m.f2).2.2.2⟩, decide (m.f1 ≠ m.f2) && decide (much l w.f0 w.f1 w.f2 w.f3 m.f1 m.f2 > 0))
  else if m.f0 = 1 then (⟨(st4 w.f0 w.f1 w.f2 w.f3 m.f1 (rd l m.f1)).1, (st4 w.f0 w.f1 w.f2 w.f3 m.f1 (rd l m.f1)).2.1, (st4 w.f0 w.f1 w.f2 w.f3 m.f1 (rd l m.f1)).2.2.1, (st4 w.f0 w.f1 w.f2 w.f3 m.f1 (rd l m.f1)).2.2.2⟩, tap && !eq4 (st4 w.f0 w.f1 w.f2 w.f3 m.f1 (rd l m.f1)) w.f0 w.f1 w.f2 w.f3)
  else (⟨(st4 w.f0 w.f1 w.f2 w.f3 m.f1 0).1, (st4 w.f0 w.f1 w.f2 w.f3 m.f1 0).2.1, (st4 w.f0 w.f1 w.f2 w.f3 m.f1 0).2.2.1, (st4 w.f0 w.f1 w.f2 w.f3 m.f1 0).2.2.2⟩, tap && !eq4 (st4 w.f0 w.f1 w.f2 w.f3 m.f1 0) w.f0 w.f1 w.f2 w.f3)
theorem moved_f {l : List Int} (hn : l.length ≤ 4) (a b c d : Int) (tap : Bool) (w : S27) (m : S80) (h : cub l.length m) :
    impl_Puzzle_moved.f l a b c d tap w.f0 w.f1 w.f2 w.f3 m.f0 m.f1 m.f2 = some ((mvI l tap w m).1.f0, (mvI l tap w m).1.f1, (mvI l tap w m).1.f2, (mvI l tap w m).1.f3, (mvI l tap w m).2) := by
  obtain ⟨h0, h1, h2⟩ := h
  unfold impl_Puzzle_moved.f mvI
  rw [if_pos (by omega)]
  by_cases c0 : m.f0 = 0
  · rw [if_pos c0, if_pos c0]
  · rw [if_neg c0, if_neg c0]
    by_cases c1 : m.f0 = 1
    · rw [if_pos c1, if_pos c1]
    · rw [if_neg c1, if_neg c1, if_pos (by omega)]
theorem isMove_f {l : List Int} (hn : l.length ≤ 4) (a b c d : Int) (tap : Bool) (m : S80) (h : cub l.length m) : impl_Puzzle_isMove.f l a b c d tap m.f0 m.f1 m.f2 = some (isM m) := by
  obtain ⟨h0, h1, h2⟩ := h
  have e1 : wrap64 m.f1 = m.f1 := by unfold wrap64; omega
  have e2 : wrap64 m.f2 = m.f2 := by unfold wrap64; omega
  have e3 : wrap64 ((l.length : Int) - 1) = (l.length : Int) - 1 := by unfold wrap64; omega
  have w1 : impl_within.f m.f1 0 ((l.length : Int) - 1) = some true := by
    unfold impl_within.f
    rw [if_pos (by omega), decide_eq_true (by omega)]
  have w2 : impl_within.f m.f2 0 ((l.length : Int) - 1) = some true := by
    unfold impl_within.f
    rw [if_pos (by omega), decide_eq_true (by omega)]
  unfold impl_Puzzle_isMove.f impl_size_int16.f isM
  simp only [Option.bind_some, e1, e2, e3, w1, w2, if_true]
  by_cases c0 : m.f0 = 0
  · rw [if_pos c0, c0]
    rfl
  · rw [if_neg c0]
    have n0 : (m.f0 == 0) = false := beq_eq_false_iff_ne.mpr c0
    rw [n0, Bool.false_or]
    by_cases c1 : m.f0 = 1
    · rw [if_pos c1]
    · rw [if_neg c1, if_pos (by omega)]
theorem i8_small {w : Int} (h : 0 ≤ w ∧ w < 128) : IntKind.i8.wrap w = w := by
  simp [IntKind.wrap, IntKind.signed, IntKind.bits]
  omega
section
variable (l : List Int) (tap : Bool) (w : S27)
def okM (m : S80) : Bool := (mvI l tap w m).2
def TT (kd : Int) (i j d : Nat) : List S80 := ((List.range' j d).map fun (t : Nat) => (⟨kd, (i : Int), (t : Int)⟩ : S80)).filter fun m => okM l tap w m && isM m
def UU (kd : Int) (i d : Nat) : List S80 := (List.range' i d).flatMap fun i => TT l tap w kd i 0 l.length
theorem TT_zero (kd : Int) (i j : Nat) : TT l tap w kd i j 0 = [] := rfl
theorem TT_succ (kd : Int) (i j d : Nat) : TT l tap w kd i j (d + 1) = (if (okM l tap w ⟨kd, (i : Int), (j : Int)⟩ && isM ⟨kd, (i : Int), (j : Int)⟩) = true then [⟨kd, (i : Int), (j : Int)⟩] else []) ++ TT l tap w kd i (j + 1) d := by
  unfold TT
  rw [List.range'_succ, List.map_cons, List.filter_cons]
  split <;> rfl
theorem TT_len (kd : Int) (i j d : Nat) : (TT l tap w kd i j d).length ≤ d := by
  unfold TT
  refine Nat.le_trans (List.length_filter_le _ _) ?_
  simp
theorem moves_l2 (hn : l.length ≤ 4) (a b c e : Int) (kd : Int) (hk : kd = 0 ∨ kd = 1 ∨ kd = 2) (i : Nat) (hi : i < l.length) (r : List S80) (B : Nat) : ∀ (d j : Nat), j + d = l.length → ∀ (acc : List S80), acc.length + d ≤ 1000 →
    (∀ k, B < k → impl_Puzzle_moves.l1 k (acc ++ TT l tap w kd i j d) kd l.length ((i + 1 : Nat) : Int) l a b c e tap w.f0 w.f1 w.f2 w.f3 = some r) →
    ∀ k, B + d + 1 < k → impl_Puzzle_moves.l2 k acc kd i l.length i l.length j l a b c e tap w.f0 w.f1 w.f2 w.f3 = some r := by
  intro d
  induction d with
  | zero =>
    intro j hj acc ha H k hk
    obtain ⟨k, rfl⟩ : ∃ m, k = m + 1 := ⟨k - 1, by omega⟩
    have nj : ¬ ((j : Int) < (l.length : Int)) := by omega
    simp only [impl_Puzzle_moves.l2]
    rw [if_neg nj, zac (n := l.length) (by omega) (by omega)]
    have := H k (by omega)
    rw [TT_zero, List.append_nil] at this
    exact this
  | succ d ih =>
    intro j hj acc ha H k hk
    obtain ⟨k, rfl⟩ : ∃ m, k = m + 1 := ⟨k - 1, by omega⟩
    have pj : (j : Int) < (l.length : Int) := by omega
    have hc : cub l.length (⟨kd, (i : Int), (j : Int)⟩ : S80) := ⟨by assumption, by dsimp only; omega, by dsimp only; omega⟩
    have m1 := moved_f hn a b c e tap w _ hc
    have m2 := isMove_f hn a b c e tap _ hc
    dsimp only at m1 m2
    simp only [impl_Puzzle_moves.l2]
    rw [if_pos pj, i8_small (by omega), i8_small (by omega), m1]
    simp only [Option.bind_some]
    rw [zac (n := l.length) (by omega) (by omega)]
    rw [TT_succ] at H
    by_cases o1 : (mvI l tap w ⟨kd, (i : Int), (j : Int)⟩).2 = true
    · rw [if_pos o1, m2]
      simp only [Option.bind_some]
      by_cases o2 : isM ⟨kd, (i : Int), (j : Int)⟩ = true
      · rw [if_pos o2, if_pos (by omega)]
        rw [if_pos (by unfold okM; rw [o1, o2]; rfl), ← List.append_assoc] at H
        exact ih (j + 1) (by omega) _ (by rw [List.length_append, List.length_singleton]; omega) H k (by omega)
      · rw [if_neg o2]
        rw [if_neg (by unfold okM; rw [o1]; simpa using o2), List.nil_append] at H
        exact ih (j + 1) (by omega) acc (by omega) H k (by omega)
    · rw [if_neg o1]
      rw [if_neg (by unfold okM; simp [o1]), List.nil_append] at H
      exact ih (j + 1) (by omega) acc (by omega) H k (by omega)
theorem moves_l1 (hn : l.length ≤ 4) (a b c e : Int) (kd : Int) (hk : kd = 0 ∨ kd = 1 ∨ kd = 2) (r : List S80) (B : Nat) : ∀ (d i : Nat), i + d = l.length → ∀ (acc : List S80), acc.length + d * 4 ≤ 900 →
    (∀ k, B < k → impl_Puzzle_moves.l0 k (acc ++ UU l tap w kd i d) (kd + 1) l a b c e tap w.f0 w.f1 w.f2 w.f3 = some r) →
    ∀ k, B + d * 7 + 1 < k → impl_Puzzle_moves.l1 k acc kd l.length i l a b c e tap w.f0 w.f1 w.f2 w.f3 = some r := by
  intro d
  induction d with
  | zero =>
    intro i hi acc ha H k hk
    obtain ⟨k, rfl⟩ : ∃ m, k = m + 1 := ⟨k - 1, by omega⟩
    have ni : ¬ ((i : Int) < (l.length : Int)) := by omega
    simp only [impl_Puzzle_moves.l1]
    rw [if_neg ni, i8_small (by omega)]
    have := H k (by omega)
    rw [show UU l tap w kd i 0 = [] from rfl, List.append_nil] at this
    exact this
  | succ d ih =>
    intro i hi acc ha H k hk
    obtain ⟨k, rfl⟩ : ∃ m, k = m + 1 := ⟨k - 1, by omega⟩
    have pi : (i : Int) < (l.length : Int) := by omega
    simp only [impl_Puzzle_moves.l1]
    rw [if_pos pi]
    have tl := TT_len l tap w kd i 0 l.length
    refine moves_l2 l tap w hn a b c e kd (by assumption) i (by omega) r (B + d * 7 + 1) l.length 0 (by omega) acc (by omega) (fun k' hk' => ?_) k (by omega)
    refine ih (i + 1) (by omega) _ (by rw [List.length_append]; omega) (fun k2 hk2 => ?_) k' (by omega)
    rw [List.append_assoc]
    have e1 : UU l tap w kd i (d + 1) = TT l tap w kd i 0 l.length ++ UU l tap w kd (i + 1) d := by
      unfold UU
      rw [List.range'_succ, List.flatMap_cons]
    rw [← e1]
    exact H k2 hk2
theorem UU_len (hn : l.length ≤ 4) (kd : Int) : ∀ (d i : Nat), (UU l tap w kd i d).length ≤ d * 4 := by
  intro d
  induction d with
  | zero => intro i; simp [UU]
  | succ d ih =>
    intro i
    have e1 : UU l tap w kd i (d + 1) = TT l tap w kd i 0 l.length ++ UU l tap w kd (i + 1) d := by
      unfold UU
      rw [List.range'_succ, List.flatMap_cons]
    have t1 := TT_len l tap w kd i 0 l.length
    have t2 := ih (i + 1)
    rw [e1, List.length_append]
    omega
theorem moves_f (hn : l.length ≤ 4) (a b c e : Int) (k : Nat) (hk : 200 < k) : impl_Puzzle_moves.f k l a b c e tap w.f0 w.f1 w.f2 w.f3 = some ((ALL l.length).filter (okM l tap w)) := by
  have e1 : (ALL l.length).filter (okM l tap w) = UU l tap w 0 0 l.length ++ (UU l tap w 1 0 l.length ++ (UU l tap w 2 0 l.length ++ [])) := by
    unfold ALL CUBE
    rw [List.filter_filter]
    simp only [List.flatMap_cons, List.flatMap_nil, List.filter_append, List.filter_flatMap, List.filter_nil]
    rfl
  have u0 := UU_len l tap w hn 0 l.length 0
  have u1 := UU_len l tap w hn 1 l.length 0
  have u2 := UU_len l tap w hn 2 l.length 0
  rw [e1]
  unfold impl_Puzzle_moves.f
  obtain ⟨k, rfl⟩ : ∃ m, k = m + 1 := ⟨k - 1, by omega⟩
  simp only [impl_Puzzle_moves.l0]
  rw [if_pos (by omega)]
  refine moves_l1 l tap w hn a b c e 0 (Or.inl rfl) _ 100 l.length 0 (by omega) [] (by simp; omega) (fun k hk => ?_) k (by omega)
  obtain ⟨k, rfl⟩ : ∃ m, k = m + 1 := ⟨k - 1, by omega⟩
  simp only [impl_Puzzle_moves.l0]
  rw [if_pos (by omega)]
  refine moves_l1 l tap w hn a b c e 1 (Or.inr (Or.inl rfl)) _ 50 l.length 0 (by omega) _ (by simp; omega) (fun k hk => ?_) k (by omega)
  obtain ⟨k, rfl⟩ : ∃ m, k = m + 1 := ⟨k - 1, by omega⟩
  simp only [impl_Puzzle_moves.l0]
  rw [if_pos (by omega)]
  refine moves_l1 l tap w hn a b c e 2 (Or.inr (Or.inr rfl)) _ 5 l.length 0 (by omega) _ (by simp; omega) (fun k hk => ?_) k (by omega)
  obtain ⟨k, rfl⟩ : ∃ m, k = m + 1 := ⟨k - 1, by omega⟩
  simp only [impl_Puzzle_moves.l0]
  rw [if_neg (by omega)]
  simp
end
/-! ### The same moves on the other side -/
theorem rd_st4 (a b c d i v : Int) (j : Nat) (hj : j < 4) : rd [(st4 a b c d i v).1, (st4 a b c d i v).2.1, (st4 a b c d i v).2.2.1, (st4 a b c d i v).2.2.2] (j : Int) = if i = (j : Int) then v else rd [a, b, c, d] (j : Int) := by
  have : j = 0 ∨ j = 1 ∨ j = 2 ∨ j = 3 := by omega
  rcases this with rfl | rfl | rfl | rfl <;> rfl
theorem eq4_iff (x : Int × Int × Int × Int) (a b c d : Int) : eq4 x a b c d = true ↔ ∀ j : Nat, j < 4 → rd [x.1, x.2.1, x.2.2.1, x.2.2.2] (j : Int) = rd [a, b, c, d] (j : Int) := by
  unfold eq4
  simp only [Bool.and_eq_true, beq_iff_eq]
  constructor
  · rintro ⟨h0, h1, h2, h3⟩ j hj
    have : j = 0 ∨ j = 1 ∨ j = 2 ∨ j = 3 := by omega
    rcases this with rfl | rfl | rfl | rfl
    · exact h0
    · exact h1
    · exact h2
    · exact h3
  · intro h
    exact ⟨h 0 (by omega), h 1 (by omega), h 2 (by omega), h 3 (by omega)⟩
theorem zze {l : List Int} (J : Jugs l) (j : Nat) : 0 ≤ rd l (j : Int) ∧ rd l (j : Int) ≤ 60 := by
  by_cases c : j < l.length
  · have := J.jg _ (rd_mem l j c)
    unfold jug at this
    omega
  · rw [zgf l j (by omega)]
    omega
theorem pour_rd {l : List Int} (J : Jugs l) {w : S27} (hw : watS l w) (fr tt : Nat) (hf : fr < l.length) (ht : tt < l.length) (hne : fr ≠ tt) :
    ∃ x : Int, much l w.f0 w.f1 w.f2 w.f3 fr tt = x ∧ 0 ≤ x ∧ x ≤ rd [w.f0, w.f1, w.f2, w.f3] (fr : Int) ∧ x ≤ rd l (tt : Int) - rd [w.f0, w.f1, w.f2, w.f3] (tt : Int) ∧
      ∀ j : Nat, j < 4 → rd [(mvP l w.f0 w.f1 w.f2 w.f3 fr tt).1, (mvP l w.f0 w.f1 w.f2 w.f3 fr tt).2.1, (mvP l w.f0 w.f1 w.f2 w.f3 fr tt).2.2.1, (mvP l w.f0 w.f1 w.f2 w.f3 fr tt).2.2.2] (j : Int) = if tt = j then rd [w.f0, w.f1, w.f2, w.f3] (tt : Int) + x else if fr = j then rd [w.f0, w.f1, w.f2, w.f3] (fr : Int) - x else rd [w.f0, w.f1, w.f2, w.f3] (j : Int) := by
  have hn := J.n4
  have h1 := hw fr (by omega)
  have h2 := hw tt (by omega)
  have j1 := zze J fr
  have j2 := zze J tt
  have e : IntKind.i16.wrap (rd l (tt : Int) - rd [w.f0, w.f1, w.f2, w.f3] (tt : Int)) = rd l (tt : Int) - rd [w.f0, w.f1, w.f2, w.f3] (tt : Int) := zpc (by omega)
  have em : much l w.f0 w.f1 w.f2 w.f3 fr tt = min (rd [w.f0, w.f1, w.f2, w.f3] (fr : Int)) (rd l (tt : Int) - rd [w.f0, w.f1, w.f2, w.f3] (tt : Int)) := by
    unfold much rd4
    rw [e]
  have x1 := Int.min_le_left (rd [w.f0, w.f1, w.f2, w.f3] (fr : Int)) (rd l (tt : Int) - rd [w.f0, w.f1, w.f2, w.f3] (tt : Int))
  have x2 := Int.min_le_right (rd [w.f0, w.f1, w.f2, w.f3] (fr : Int)) (rd l (tt : Int) - rd [w.f0, w.f1, w.f2, w.f3] (tt : Int))
  have x0 : 0 ≤ min (rd [w.f0, w.f1, w.f2, w.f3] (fr : Int)) (rd l (tt : Int) - rd [w.f0, w.f1, w.f2, w.f3] (tt : Int)) := by
    rw [Int.le_min]
    omega
  refine ⟨_, em, x0, x1, x2, fun j hj => ?_⟩
  unfold mvP
  rw [em]
  generalize min (rd [w.f0, w.f1, w.f2, w.f3] (fr : Int)) (rd l (tt : Int) - rd [w.f0, w.f1, w.f2, w.f3] (tt : Int)) = x at x0 x1 x2
  have ef : IntKind.i16.wrap (rd4 w.f0 w.f1 w.f2 w.f3 (fr : Int) - x) = rd [w.f0, w.f1, w.f2, w.f3] (fr : Int) - x := zpc (by unfold rd4; omega)
  have et : ∀ v : Int, rd4 (st4 w.f0 w.f1 w.f2 w.f3 (fr : Int) v).1 (st4 w.f0 w.f1 w.f2 w.f3 (fr : Int) v).2.1 (st4 w.f0 w.f1 w.f2 w.f3 (fr : Int) v).2.2.1 (st4 w.f0 w.f1 w.f2 w.f3 (fr : Int) v).2.2.2 (tt : Int) = rd [w.f0, w.f1, w.f2, w.f3] (tt : Int) := by
    intro v
    unfold rd4
    rw [rd_st4 _ _ _ _ _ _ tt (by omega), if_neg (by omega)]
  have e2 : IntKind.i16.wrap (rd [w.f0, w.f1, w.f2, w.f3] (tt : Int) + x) = rd [w.f0, w.f1, w.f2, w.f3] (tt : Int) + x := zpc (by omega)
  simp only []
  rw [rd_st4 _ _ _ _ _ _ j hj, et, e2, ef]
  by_cases c1 : tt = j
  · rw [if_pos c1, if_pos (by omega)]
  · rw [if_neg c1, if_neg (by omega), rd_st4 _ _ _ _ _ _ j hj]
    by_cases c2 : fr = j
    · rw [if_pos c2, if_pos (by omega)]
    · rw [if_neg c2, if_neg (by omega)]
theorem zke {l : List Int} (J : Jugs l) (tap : Bool) {w : S27} (hw : watS l w) (m : S80) (h : cub l.length m) :
    znc l tap w.f0 w.f1 w.f2 w.f3 m.f0 m.f1 m.f2 = (if (mvI l tap w m).2 = true then ((mvI l tap w m).1.f0, (mvI l tap w m).1.f1, (mvI l tap w m).1.f2, (mvI l tap w m).1.f3, 0) else (0, 0, 0, 0, 4)) ∧ ((mvI l tap w m).2 = true → watS l (mvI l tap w m).1) := by
  obtain ⟨h0, h1, h2⟩ := h
  have hn := J.n4
  obtain ⟨kd, fr, tt⟩ := m
  dsimp only at h0 h1 h2 ⊢
  obtain ⟨fr, rfl⟩ := Int.eq_ofNat_of_zero_le h1.1
  obtain ⟨tt, rfl⟩ := Int.eq_ofNat_of_zero_le h2.1
  unfold znc mvI
  dsimp only
  have hfr := hw fr (by omega)
  have set_wat : ∀ v : Int, 0 ≤ v → v ≤ rd l (fr : Int) → watS l (⟨(st4 w.f0 w.f1 w.f2 w.f3 fr v).1, (st4 w.f0 w.f1 w.f2 w.f3 fr v).2.1, (st4 w.f0 w.f1 w.f2 w.f3 fr v).2.2.1, (st4 w.f0 w.f1 w.f2 w.f3 fr v).2.2.2⟩ : S27) := by
    intro v v1 v2 j hj
    dsimp only
    rw [rd_st4 _ _ _ _ _ _ j hj]
    by_cases c : (fr : Int) = (j : Int)
    · rw [if_pos c, ← c]
      exact ⟨v1, v2⟩
    · rw [if_neg c]
      exact hw j hj
  by_cases c0 : kd = 0
  · rw [if_pos c0, if_pos c0]
    by_cases c1 : fr = tt
    · rw [if_pos (by omega)]
      have z : (decide ((fr : Int) ≠ (tt : Int)) && decide (much l w.f0 w.f1 w.f2 w.f3 (fr : Int) (tt : Int) > 0)) = false := by rw [decide_eq_false (by omega)]; rfl
      dsimp only
      rw [z]
      exact ⟨(if_neg (by decide)).symm, fun h => by cases h⟩
    · rw [if_neg (by omega)]
      obtain ⟨x, ex, x0, x1, x2, hr⟩ := pour_rd J hw fr tt (by omega) (by omega) c1
      dsimp only
      rw [ex]
      have ht := hw tt (by omega)
      by_cases c2 : x > 0
      · have z : (decide ((fr : Int) ≠ (tt : Int)) && decide (x > 0)) = true := by rw [decide_eq_true (by omega), decide_eq_true c2]; rfl
        rw [z, if_pos rfl]
        have ne : ¬ eq4 (mvP l w.f0 w.f1 w.f2 w.f3 (fr : Int) (tt : Int)) w.f0 w.f1 w.f2 w.f3 = true := by
          intro h
          have := (eq4_iff _ _ _ _ _).mp h fr (by omega)
          rw [hr fr (by omega), if_neg (by omega), if_pos rfl] at this
          omega
        refine ⟨by unfold stR; rw [if_neg ne], fun _ j hj => ?_⟩
        dsimp only
        rw [hr j hj]
        by_cases d1 : tt = j
        · rw [if_pos d1, ← d1]
          omega
        · rw [if_neg d1]
          by_cases d2 : fr = j
          · rw [if_pos d2, ← d2]
            omega
          · rw [if_neg d2]
            exact hw j hj
      · have z : (decide ((fr : Int) ≠ (tt : Int)) && decide (x > 0)) = false := by rw [decide_eq_false c2, Bool.and_false]
        rw [z]
        have eq : eq4 (mvP l w.f0 w.f1 w.f2 w.f3 (fr : Int) (tt : Int)) w.f0 w.f1 w.f2 w.f3 = true := by
          refine (eq4_iff _ _ _ _ _).mpr fun j hj => ?_
          rw [hr j hj]
          by_cases d1 : tt = j
          · rw [if_pos d1, ← d1]
            omega
          · rw [if_neg d1]
            by_cases d2 : fr = j
            · rw [if_pos d2, ← d2]
              omega
            · rw [if_neg d2]
        refine ⟨by unfold stR; rw [if_pos eq]; rfl, fun h => by cases h⟩
  · rw [if_neg c0, if_neg c0]
    cases tap with
    | false =>
      rw [if_neg (by decide)]
      split
      · exact ⟨rfl, fun h => by cases h⟩
      · exact ⟨rfl, fun h => by cases h⟩
    | true =>
      rw [if_pos rfl]
      by_cases c1 : kd = 1
      · rw [if_pos c1, if_pos c1]
        dsimp only
        rw [Bool.true_and]
        unfold stR
        cases hq : eq4 (st4 w.f0 w.f1 w.f2 w.f3 (fr : Int) (rd l (fr : Int))) w.f0 w.f1 w.f2 w.f3 with
        | true => exact ⟨rfl, fun h => by cases h⟩
        | false => exact ⟨rfl, fun _ => set_wat _ (by have := zze J fr; omega) (by omega)⟩
      · rw [if_neg c1, if_neg c1]
        dsimp only
        rw [Bool.true_and]
        unfold stR
        cases hq : eq4 (st4 w.f0 w.f1 w.f2 w.f3 (fr : Int) 0) w.f0 w.f1 w.f2 w.f3 with
        | true => exact ⟨rfl, fun h => by cases h⟩
        | false => exact ⟨rfl, fun _ => set_wat _ (by omega) (by have := zze J fr; omega)⟩
theorem isW_of {l : List Int} (J : Jugs l) {w : S27} (hw : watS l w) : isW w.f0 w.f1 w.f2 w.f3 := by
  have e : ∀ j : Nat, j < 4 → 0 ≤ rd [w.f0, w.f1, w.f2, w.f3] (j : Int) ∧ rd [w.f0, w.f1, w.f2, w.f3] (j : Int) < 32768 := by
    intro j hj
    have h1 := hw j hj
    have h2 := zze J j
    omega
  exact ⟨e 0 (by omega), e 1 (by omega), e 2 (by omega), e 3 (by omega)⟩
theorem wfW_of {l : List Int} (J : Jugs l) {w : S27} (hw : watS l w) : wfW w := by
  obtain ⟨h0, h1, h2, h3⟩ := isW_of J hw
  unfold wfW wf16
  omega
theorem move_f {l : List Int} (J : Jugs l) (a b c d : Int) (tap : Bool) {w : S27} (hw : watS l w) (m : S80) (h : cub l.length m) (hM : isM m = true) :
    spec_l02Move.f l a b c d tap w.f0 w.f1 w.f2 w.f3 m.f0 m.f1 m.f2 = some (if (mvI l tap w m).2 = true then ((mvI l tap w m).1.f0, (mvI l tap w m).1.f1, (mvI l tap w m).1.f2, (mvI l tap w m).1.f3, 0) else (0, 0, 0, 0, 4)) := by
  have hm : isMv l.length m.f0 m.f1 m.f2 := by
    obtain ⟨h0, h1, h2⟩ := h
    refine ⟨h1, h2, ?_⟩
    unfold isM at hM
    simp only [Bool.or_eq_true, beq_iff_eq] at hM
    omega
  unfold spec_l02Move.f
  rw [if_pos ⟨J.n4, hm, isW_of J hw⟩, (zke J tap hw m h).1]
theorem mvd_f {l : List Int} (J : Jugs l) (a b c d : Int) (tap : Bool) {w : S27} (hw : watS l w) (m : S80) (h : cub l.length m) (hM : (mvI l tap w m).2 = true) :
    mvd l a b c d tap w.f0 w.f1 w.f2 w.f3 m.f0 m.f1 m.f2 = some ((mvI l tap w m).1.f0, (mvI l tap w m).1.f1, (mvI l tap w m).1.f2, (mvI l tap w m).1.f3, (mvI l tap w m).2) := by
  unfold mvd
  rw [moved_f J.n4 a b c d tap w m h]
  simp only [Option.bind_some]
  rw [if_pos (wfW_of J ((zke J tap hw m h).2 hM))]

end Go.Proofs.Yteciomagemjjaaa.J
