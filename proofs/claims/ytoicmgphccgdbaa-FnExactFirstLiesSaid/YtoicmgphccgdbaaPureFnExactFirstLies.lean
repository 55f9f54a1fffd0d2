/- Proved: the program's FirstLies answers as the reference's for every game and thing; what it gives back is its own. No conditions. -/
import Derived.Test.YtoicmgphccgdbaaLGLies
import Derived.Test.YtoicmgphccgdbaaMx18
import Derived.Test.YtoicmgphccgdbaaMx39
import Derived.Test.YtoicmgphccgdbaaMx40
import Derived.Test.YtoicmgphccgdbaaSFnExactFirstLies
namespace Go.Proofs.Ytoicmgphccgdbaa.Pure
open Go.RowKit Go.Proofs.Ytoicmgphccgdbaa.M Go.Proofs.YtoicmgphccgdbaaW.PrintWords Go.Proofs.YtoicmgphccgdbaaW.PrintLast Go.Proofs.YtoicmgphccgdbaaW.PrintMore
set_option linter.unusedVariables false
set_option linter.unusedSimpArgs false

theorem laws_eqInt64S_l0 (xs : List Int) (hn : xs.length ≤ 140737488355328) (d : Nat) : ∀ (j : Nat), j + d = xs.length → ∀ k, d < k → laws_eqInt64S.l0 k xs xs j = some true := by
  induction d with
  | zero =>
    intro j hj k hk
    obtain ⟨k, rfl⟩ : ∃ m, k = m + 1 := ⟨k - 1, by omega⟩
    simp only [laws_eqInt64S.l0]; rw [if_neg (by omega)]
  | succ d ih =>
    intro j hj k hk
    obtain ⟨k, rfl⟩ : ∃ m, k = m + 1 := ⟨k - 1, by omega⟩
    simp only [laws_eqInt64S.l0]
    rw [if_pos (by omega), if_pos (by omega), if_pos (by omega), if_pos trivial, next_i (n := xs.length) (by omega) hn]
    exact ih (j + 1) (by omega) k (by omega)
theorem laws_eqInt64S_f (xs : List Int) (hn : xs.length ≤ 140737488355328) (k : Nat) (hk : xs.length < k) : laws_eqInt64S.f k xs xs = some true := by
  unfold laws_eqInt64S.f
  rw [if_pos rfl]
  exact laws_eqInt64S_l0 xs hn xs.length 0 (by omega) k hk

theorem laws_markInt64S_l0 (d : Nat) : ∀ (l : List Int) (i j : Nat), j + d = l.length → i + d ≤ 140737488355328 → l.length ≤ 140737488355328 → ∀ k, d < k →
    ∃ l', laws_markInt64S.l0 k l i j = some (((i + d : Nat) : Int), l') ∧ l'.length = l.length ∧ (∀ q, q < j → l'.getD q 0 = l.getD q 0) ∧ (∀ q, j ≤ q → q < l.length → l'.getD q 0 =  ((i + (q - j) : Nat) : Int)) := by
  induction d with
  | zero =>
    intro l i j hj hi hl k hk
    obtain ⟨k, rfl⟩ : ∃ m, k = m + 1 := ⟨k - 1, by omega⟩
    refine ⟨l, ?_, rfl, fun _ _ => rfl, fun q h1 h2 => by omega⟩
    simp only [laws_markInt64S.l0]; rw [if_neg (by omega)]; simp
  | succ d ih =>
    intro l i j hj hi hl k hk
    obtain ⟨k, rfl⟩ : ∃ m, k = m + 1 := ⟨k - 1, by omega⟩
    simp only [laws_markInt64S.l0]
    rw [if_pos (by omega), if_pos (by omega), next_i (j := j) (n := l.length) (by omega) hl, next_i (n := 140737488355328) (j := i) (by omega) (by omega), Int.toNat_natCast]
    obtain ⟨l', e, el, e1, e2⟩ := ih (l.set j ( (i : Int))) (i + 1) (j + 1) (by rw [List.length_set]; omega) (by omega) (by rw [List.length_set]; omega) k (by omega)
    rw [List.length_set] at el
    refine ⟨l', ?_, el, fun q h => ?_, fun q h1 h2 => ?_⟩
    · rw [e]; simp; omega
    · rw [e1 q (by omega)]; simp only [List.getD_eq_getElem?_getD]; rw [List.getElem?_set_ne (by omega)]
    · by_cases c : q = j
      · subst c
        rw [e1 q (by omega)]; simp only [List.getD_eq_getElem?_getD]; rw [List.getElem?_set_self (by omega)]; simp
      · rw [e2 q (by omega) (by rw [List.length_set]; exact h2)]
        rw [show i + 1 + (q - (j + 1)) = i + (q - j) by omega]
theorem laws_heldInt64S_l0 (d : Nat) : ∀ (l : List Int) (i j : Nat), j + d = l.length → i + d ≤ 140737488355328 → l.length ≤ 140737488355328 → (∀ q, j ≤ q → q < l.length → l.getD q 0 =  ((i + (q - j) : Nat) : Int)) → ∀ k, d < k →
    laws_heldInt64S.l0 k l i j = some ((i + d : Nat) : Int) := by
  induction d with
  | zero =>
    intro l i j hj hi hl he k hk
    obtain ⟨k, rfl⟩ : ∃ m, k = m + 1 := ⟨k - 1, by omega⟩
    simp only [laws_heldInt64S.l0]; rw [if_neg (by omega)]; simp
  | succ d ih =>
    intro l i j hj hi hl he k hk
    obtain ⟨k, rfl⟩ : ∃ m, k = m + 1 := ⟨k - 1, by omega⟩
    simp only [laws_heldInt64S.l0]
    have h0 := he j (by omega) (by omega)
    rw [show i + (j - j) = i by omega] at h0
    rw [if_pos (by omega), if_pos (by omega), rd_at, if_pos h0, next_i (j := j) (n := l.length) (by omega) hl, next_i (n := 140737488355328) (j := i) (by omega) (by omega)]
    rw [ih l (i + 1) (j + 1) (by omega) (by omega) hl (fun q h1 h2 => by rw [he q (by omega) h2, show i + 1 + (q - (j + 1)) = i + (q - j) by omega]) k (by omega)]
    rw [show i + 1 + d = i + (d + 1) by omega]
/-- What is marked is held. -/
theorem laws_markInt64S_held (l : List Int) (i : Nat) (hi : i + l.length ≤ 140737488355328) (k k2 : Nat) (hk : l.length < k) (hk2 : l.length < k2) :
    ∃ l', laws_markInt64S.f k l i = some (((i + l.length : Nat) : Int), l') ∧ l'.length = l.length ∧ laws_heldInt64S.f k2 l' i = some ((i + l.length : Nat) : Int) := by
  obtain ⟨l', e, el, _, e2⟩ := laws_markInt64S_l0 l.length l i 0 (by omega) (by omega) (by omega) k hk
  refine ⟨l', e, el, ?_⟩
  have := laws_heldInt64S_l0 l.length l' i 0 (by omega) (by omega) (by omega) (fun q h1 h2 => e2 q h1 (by omega)) k2 (by omega)
  exact this

theorem first_l0 {n : Int} (h0 : 0 ≤ n) (h1 : n ≤ 63) (a b : Int) (l : List S75) (hn : l.length ≤ 60) (d : Nat) : ∀ (j : Nat) (o : List Int), j + d = l.length → o.length ≤ j → ∀ k, d < k →
    spec_FirstLies.l0 k n o j a b l = some (o ++ liesF n (l.drop j) j, 0) := by
  induction d with
  | zero =>
    intro j o hj ho k hk
    obtain ⟨k, rfl⟩ : ∃ m, k = m + 1 := ⟨k - 1, by omega⟩
    simp only [spec_FirstLies.l0]; rw [if_neg (by omega), List.drop_of_length_le (by omega)]; simp [liesF]
  | succ d ih =>
    intro j o hj ho k hk
    obtain ⟨k, rfl⟩ : ∃ m, k = m + 1 := ⟨k - 1, by omega⟩
    simp only [spec_FirstLies.l0]
    rw [if_pos (by omega), if_pos (by omega), rd75_at, specWrong_f h0 h1, drop75_at l j (by omega), next_i (n := l.length) (by omega) (by omega)]
    simp only [Option.bind_some]
    rw [liesF]
    by_cases q : wrongB n (l.getD j z75) = true
    · rw [if_pos q, if_pos q, if_pos (by omega), ih (j + 1) _ (by omega) (by rw [List.length_append]; simp; omega) k (by omega)]
      simp
    · rw [if_neg q, if_neg q, ih (j + 1) _ (by omega) (by omega) k (by omega)]
theorem specFirst_f {a b : Int} {l : List S75} (n : Int) (ha : -128 ≤ a ∧ a ≤ 127) (hb : -128 ≤ b ∧ b ≤ 127) (k : Nat) (hk : 200 < k) : spec_FirstLies.f k a b l n = some (firstF a b l n) := by
  unfold spec_FirstLies.f firstF
  rw [asked_f n ha hb k (by omega)]
  simp only [Option.bind_some]
  by_cases c : codeG a b l n = 0
  · have w := code_zero c
    have g := okG_small w.1
    rw [if_pos c, if_pos c]
    exact first_l0 w.2.1 (by omega) a b l g.2.2 l.length 0 [] (by omega) (by simp) k (by omega)
  · rw [if_neg c, if_neg c]
theorem markAsk_l0 (d : Nat) : ∀ (l : List S75) (i j : Nat), j + d = l.length → i + 2 * d ≤ 140737488355328 → l.length ≤ 140737488355328 → ∀ k, d < k →
    ∃ l', laws_markAskS.l0 k l i j = some (((i + 2 * d : Nat) : Int), l') := by
  induction d with
  | zero =>
    intro l i j hj hi hl k hk
    obtain ⟨k, rfl⟩ : ∃ m, k = m + 1 := ⟨k - 1, by omega⟩
    refine ⟨l, ?_⟩
    simp only [laws_markAskS.l0]; rw [if_neg (by omega)]; simp
  | succ d ih =>
    intro l i j hj hi hl k hk
    obtain ⟨k, rfl⟩ : ∃ m, k = m + 1 := ⟨k - 1, by omega⟩
    simp only [laws_markAskS.l0, Option.bind_some]
    rw [if_pos (by omega), if_pos (by omega), next_i (j := j) (n := l.length) (by omega) hl, next_i (n := 140737488355328) (j := i) (by omega) (by omega), next_i (n := 140737488355328) (j := i + 1) (by omega) (by omega)]
    obtain ⟨l', e⟩ := ih ((l.set ((j : Nat) : Int).toNat (⟨IntKind.u64.wrap (i : Int), (rd_T75 l (j : Int)).f1⟩ : S75)).set ((j : Nat) : Int).toNat
      (⟨(rd_T75 (l.set ((j : Nat) : Int).toNat (⟨IntKind.u64.wrap (i : Int), (rd_T75 l (j : Int)).f1⟩ : S75)) (j : Int)).f0, (Int.tmod (((i + 1 : Nat)) : Int) 3) == 0⟩ : S75)) (i + 1 + 1) (j + 1)
      (by rw [List.length_set, List.length_set]; omega) (by omega) (by rw [List.length_set, List.length_set]; exact hl) k (by omega)
    refine ⟨l', e.trans ?_⟩
    congr 3; omega
theorem FnExactFirstLies : laws_FnExactFirstLies.Pure := by
  intro a b xs n ha hb hx _ _
  obtain ⟨k, hk⟩ : ∃ k : Nat, 1048580 ≤ k := ⟨1048580, by omega⟩
  refine ⟨k + 1 + 1 + 1, ?_⟩
  unfold laws_FnExactFirstLies.f
  rw [szGame_f a b xs _ (by omega) (by omega) hx]
  by_cases q : (1048576 : Int) < xs.length
  · rw [if_pos q]; simp
  · rw [if_neg q]
    simp only [Option.bind_some]
    rw [if_neg (by omega), toGame_f a b xs (by omega) _ (by omega)]
    simp only [Option.bind_some]
    have ml : (xs.map cv).length ≤ 1048576 := by rw [List.length_map]; omega
    have tg := fun k hk => toGame_f a b xs (by omega) k hk
    generalize xs.map cv = ys at ml tg ⊢
    have vl : (firstF a b ys n).1.length ≤ 1048576 := by
      have := liesF_len n ys 0
      unfold firstF; split
      · simp only; omega
      · simp
    rw [specFirst_f n (i8_wf ha) (i8_wf hb) _ (by omega), implFirst_f n (i8_wf ha) (i8_wf hb) _ (by omega)]
    have im := fun k hk => implFirst_f (l := ys) n (i8_wf ha) (i8_wf hb) k hk
    generalize firstF a b ys n = v at vl im ⊢
    obtain ⟨v1, v2⟩ := v
    simp only at vl
    simp only [Option.bind_some, bne_self_eq_false]
    rw [laws_eqInt64S_f v1 (by omega) _ (by omega)]
    simp only [Option.bind_some, if_true, laws_FnExactFirstLies.j0, Bool.false_eq_true, if_false]
    rw [tg _ (by omega)]
    simp only [Option.bind_some]
    rw [eqGame_f a b ys ml _ (by omega)]
    simp only [Option.bind_some, if_true]
    obtain ⟨x', m1⟩ := markAsk_l0 ys.length ys 1 0 (by omega) (by omega) (by omega) (k + 1 + 1) (by omega)
    have m1' : laws_markAskS.f (k + 1 + 1) ys 1 = some (((1 + 2 * ys.length : Nat) : Int), x') := m1
    unfold laws_markGame.f
    rw [m1']
    simp only [Option.bind_some]
    rw [if_neg (by omega), laws_eqInt64S_f v1 (by omega) _ (by omega)]
    simp only [Option.bind_some, if_true, laws_FnExactFirstLies.j1, bne_self_eq_false, Bool.false_eq_true, if_false]
    obtain ⟨y', n1, nl, n2⟩ := laws_markInt64S_held v1 1 (by omega) (k + 1) (k + 1) (by omega) (by omega)
    obtain ⟨z', p1, pl, p2⟩ := laws_markInt64S_held v1 1 (by omega) (k + 1) k (by omega) (by omega)
    have : z' = y' := by rw [n1] at p1; simpa using p1.symm
    subst this
    rw [show ((1 : Nat) : Int) = 1 from rfl] at n1 n2 p2
    rw [n1]
    simp only [Option.bind_some]
    rw [n2]
    simp only [Option.bind_some]
    rw [if_neg (by omega)]
    simp only [if_true]
    rw [tg _ (by omega)]
    simp only [Option.bind_some]
    rw [im _ (by omega)]
    simp only [Option.bind_some]
    rw [laws_eqInt64S_f v1 (by omega) _ (by omega)]
    simp only [Option.bind_some, if_true, laws_FnExactFirstLies.j2, bne_self_eq_false, Bool.false_eq_true, if_false]
    rw [p2]
    simp only [Option.bind_some]
    rw [if_neg (by omega)]
    simp

end Go.Proofs.Ytoicmgphccgdbaa.Pure
