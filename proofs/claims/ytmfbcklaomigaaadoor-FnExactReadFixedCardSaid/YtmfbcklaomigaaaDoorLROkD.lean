/- Fixed plans: the one test of both sides. -/
import Derived.Test.YtmfbcklaomigaaaDoorDx1
import Derived.Test.YtmfbcklaomigaaaDoorDx10
import Derived.Test.YtmfbcklaomigaaaDoorDx2
import Derived.Test.YtmfbcklaomigaaaDoorDx7
import Derived.Test.YtmfbcklaomigaaaDoorDx8
import Derived.Test.YtmfbcklaomigaaaDoorDx9
import Derived.Test.YtmfbcklaomigaaaDoorLRBaseD
namespace Go.Proofs.YtmfbcklaomigaaaDoor.D
open Go.RowKit Go.Proofs.YtmfbcklaomigaaaDoorW.PrintWords Go.Proofs.YtmfbcklaomigaaaDoorW.PrintLast Go.Proofs.YtmfbcklaomigaaaDoorW.PrintMore
set_option linter.unusedVariables false
set_option linter.unusedSimpArgs false

def okL (a : Int) : Bool := decide (1 ≤ a ∧ a ≤ 4)
def okK (a : Int) : Bool := decide (0 ≤ a ∧ a ≤ 2)
def okAt (a i x : Int) : Bool := decide (-1 ≤ x ∧ x ≤ 1 ∧ (a ≤ i → x = 0))
def wordB (a p q r s : Int) : Bool := okAt a 0 p && (okAt a 1 q && (okAt a 2 r && okAt a 3 s))
def allW (a : Int) (l : List S35) : Bool := l.all fun x => wordB a x.f0 x.f1 x.f2 x.f3
theorem letters_f (a : Int) : spec_l04Letters.f a = some (okL a) ∧ impl_areLetters.f a = some (okL a) := by
  unfold spec_l04Letters.f impl_areLetters.f spec_l00In.f impl_within.f okL
  by_cases h : 1 ≤ a
  · rw [if_pos (show a ≥ 1 from h)]
    by_cases h2 : a ≤ 4 <;> simp [h, h2]
  · rw [if_neg (show ¬ a ≥ 1 from h)]; simp [h]
theorem kind_f (a : Int) : spec_l04Kind.f a = some (okK a) ∧ impl_isKind.f a = some (okK a) := by
  unfold spec_l04Kind.f impl_isKind.f spec_l00In.f impl_within.f okK
  by_cases h : 0 ≤ a
  · rw [if_pos (show a ≥ 0 from h)]
    by_cases h2 : a ≤ 2 <;> simp [h, h2]
  · rw [if_neg (show ¬ a ≥ 0 from h)]; simp [h]
theorem iword_step {a i i' p q r s x : Int} {k : Nat} (h4 : i < 4) (h0 : 0 ≤ i) (hx : rd [p, q, r, s] i = x) (hi : wrap64 (i + 1) = i') :
    impl_ValidWord.l0 (k + 1) a i p q r s = if okAt a i x = true then impl_ValidWord.l0 k a i' p q r s else some false := by
  rw [impl_ValidWord.l0.eq_2, if_pos h4, if_pos h0, hx, hi]
  unfold okAt
  by_cases c1 : x < -1
  · rw [if_pos c1, if_neg (by simp; omega)]
  · rw [if_neg c1]
    by_cases c2 : x > 1
    · rw [if_pos c2, if_neg (by simp; omega)]
    · rw [if_neg c2]
      by_cases c3 : i ≥ a
      · rw [if_pos c3]
        by_cases c4 : x = 0
        · rw [if_pos c4, if_pos (by simp; omega)]
        · rw [if_neg c4, if_neg (by simp; omega)]
      · rw [if_neg c3, if_pos (by simp; omega)]
theorem sword_step {a i i' p q r s x : Int} {k : Nat} (h4 : i < 4) (h0 : 0 ≤ i) (hx : rd [p, q, r, s] i = x) (hi : wrap64 (i + 1) = i') :
    spec_l04Word.l0 (k + 1) a i p q r s = if okAt a i x = true then spec_l04Word.l0 k a i' p q r s else some false := by
  rw [spec_l04Word.l0.eq_2, if_pos h4, if_pos h0, hx, hi]
  unfold okAt
  by_cases c1 : x < -1
  · rw [if_pos c1, if_neg (by simp; omega)]
  · rw [if_neg c1]
    by_cases c2 : x > 1
    · rw [if_pos c2, if_neg (by simp; omega)]
    · rw [if_neg c2]
      by_cases c3 : i ≥ a
      · rw [if_pos c3]
        by_cases c4 : x = 0
        · rw [if_pos c4, if_pos (by simp; omega)]
        · rw [if_neg c4, if_neg (by simp; omega)]
      · rw [if_neg c3, if_pos (by simp; omega)]
theorem word_f (a p q r s : Int) (ha : okL a = true) (k : Nat) (hk : 5 < k) : spec_l04Word.f k a p q r s = some (wordB a p q r s) ∧ impl_ValidWord.f k a p q r s = some (wordB a p q r s) := by
  obtain ⟨k, rfl⟩ : ∃ m, k = m + 1 + 1 + 1 + 1 + 1 := ⟨k - 5, by omega⟩
  unfold spec_l04Word.f impl_ValidWord.f wordB
  rw [(letters_f a).2, ha]
  simp only [Option.bind_some, if_true]
  rw [iword_step (x := p) (by decide) (by decide) rfl wn_0, iword_step (x := q) (by decide) (by decide) rfl wn_1, iword_step (x := r) (by decide) (by decide) rfl wn_2, iword_step (x := s) (by decide) (by decide) rfl wn_3, impl_ValidWord.l0.eq_2, if_neg (show ¬ (4 : Int) < 4 by decide)]
  rw [sword_step (x := p) (by decide) (by decide) rfl wn_0, sword_step (x := q) (by decide) (by decide) rfl wn_1, sword_step (x := r) (by decide) (by decide) rfl wn_2, sword_step (x := s) (by decide) (by decide) rfl wn_3, spec_l04Word.l0.eq_2, if_neg (show ¬ (4 : Int) < 4 by decide), (letters_f a).1, ha]
  cases okAt a 0 p <;> cases okAt a 1 q <;> cases okAt a 2 r <;> cases okAt a 3 s <;> exact ⟨rfl, rfl⟩
theorem drop35_at (xs : List S35) (j : Nat) (h : j < xs.length) : xs.drop j = xs.getD j z35 :: xs.drop (j + 1) := by
  rw [List.getD_eq_getElem?_getD, List.getElem?_eq_getElem h, Option.getD_some]
  exact List.drop_eq_getElem_cons h
theorem specOk_l0 {a kd : Int} (ha : okL a = true) (wa : wrap64 a = a) (l : List S35) (hn : l.length ≤ 80) (d : Nat) : ∀ j : Nat, j + d = l.length → ∀ k, d + 6 < k → spec_l04Ok.l0 k j a kd l = some (allW a (l.drop j)) := by
  induction d with
  | zero =>
    intro j hj k hk
    obtain ⟨k, rfl⟩ : ∃ m, k = m + 1 := ⟨k - 1, by omega⟩
    rw [spec_l04Ok.l0.eq_2, if_neg (by omega), List.drop_of_length_le (by omega)]; rfl
  | succ d ih =>
    intro j hj k hk
    obtain ⟨k, rfl⟩ : ∃ m, k = m + 1 := ⟨k - 1, by omega⟩
    rw [spec_l04Ok.l0.eq_2, if_pos (by omega), if_pos (by omega), wa, (word_f a _ _ _ _ ha k (by omega)).1, next_i (j := j) (n := l.length) (by omega) (by omega), ih (j + 1) (by omega) k (by omega), drop35_at l j (by omega), rd35_at]
    simp only [Option.bind_some, allW, List.all_cons]
    cases wordB a (l.getD j z35).f0 (l.getD j z35).f1 (l.getD j z35).f2 (l.getD j z35).f3 <;> simp
theorem implOk_l0 {a : Int} (ha : okL a = true) (l : List S35) (hn : l.length ≤ 80) (d : Nat) : ∀ j : Nat, j + d = l.length →
    ∃ v, (∀ k, d + 6 < k → impl_Word_65_38.l0 k l l.length j a = some v) ∧ decide (v ≥ 0) = !(allW a (l.drop j)) := by
  induction d with
  | zero =>
    intro j hj
    refine ⟨-1, fun k hk => ?_, ?_⟩
    · obtain ⟨k, rfl⟩ : ∃ m, k = m + 1 := ⟨k - 1, by omega⟩
      rw [impl_Word_65_38.l0.eq_2, if_neg (by omega)]
    · rw [List.drop_of_length_le (by omega)]; rfl
  | succ d ih =>
    intro j hj
    obtain ⟨v, hv, e⟩ := ih (j + 1) (by omega)
    have s : ∀ k, d + 1 + 6 < k + 1 → impl_Word_65_38.l0 (k + 1) l l.length j a = if wordB a (l.getD j z35).f0 (l.getD j z35).f1 (l.getD j z35).f2 (l.getD j z35).f3 = true then some v else some (j : Int) := fun k hk => by
      rw [impl_Word_65_38.l0.eq_2, if_pos (by omega), if_pos (by omega), if_pos (by omega)]
      unfold impl_ValidFixed_1.f
      rw [(word_f a _ _ _ _ ha k (by omega)).2, next_i (j := j) (n := l.length) (by omega) (by omega), hv k (by omega), rd35_at]
      simp only [Option.bind_some]
      cases wordB a (l.getD j z35).f0 (l.getD j z35).f1 (l.getD j z35).f2 (l.getD j z35).f3 <;> simp
    rw [drop35_at l j (by omega)]
    by_cases c : wordB a (l.getD j z35).f0 (l.getD j z35).f1 (l.getD j z35).f2 (l.getD j z35).f3 = true
    · refine ⟨v, fun k hk => ?_, ?_⟩
      · obtain ⟨k, rfl⟩ : ∃ m, k = m + 1 := ⟨k - 1, by omega⟩
        rw [s k hk, if_pos c]
      · simp only [allW, List.all_cons, c, Bool.true_and]; exact e
    · refine ⟨(j : Int), fun k hk => ?_, ?_⟩
      · obtain ⟨k, rfl⟩ : ∃ m, k = m + 1 := ⟨k - 1, by omega⟩
        rw [s k hk, if_neg c]
      · simp only [allW, List.all_cons, Bool.eq_false_iff.mpr c, Bool.false_and, Bool.not_false]; exact decide_eq_true (by omega)
def okF (a kd : Int) (l : List S35) : Bool := okL a && (okK kd && (decide (1 ≤ l.length ∧ l.length ≤ 80) && allW a l))
theorem fixed_f {a kd : Int} (ha : -128 ≤ a ∧ a ≤ 127) (hk : -128 ≤ kd ∧ kd ≤ 127) (l : List S35) (k : Nat) (h : 200 < k) : spec_l04Ok.f k a kd l = some (okF a kd l) ∧ impl_ValidFixed.f k a kd l = some (okF a kd l) := by
  obtain ⟨k, rfl⟩ : ∃ m, k = m + 1 := ⟨k - 1, by omega⟩
  have wa : wrap64 a = a := by unfold wrap64; omega
  have wk : wrap64 kd = kd := by unfold wrap64; omega
  unfold spec_l04Ok.f impl_ValidFixed.f okF
  rw [wa, wk, (letters_f a).1, (letters_f a).2]
  simp only [Option.bind_some]
  by_cases c1 : okL a = true
  · rw [c1, if_pos rfl, if_pos rfl, (kind_f kd).1, (kind_f kd).2]
    simp only [Option.bind_some]
    by_cases c2 : okK kd = true
    · rw [c2, if_pos rfl, if_pos rfl]
      unfold impl_Word_36.f spec_l00In.f impl_within.f
      simp only [Option.bind_some]
      by_cases c3 : 1 ≤ l.length
      · by_cases c4 : l.length ≤ 80
        · rw [if_pos (show (l.length : Int) ≥ 1 by omega), decide_eq_true (show (l.length : Int) ≤ 80 by omega)]
          simp only [Option.bind_some, if_true, Bool.not_true, spec_l04Ok.j0, Bool.false_eq_true, if_false]
          have e1 : spec_l04Ok.l0 k 0 a kd l = some (allW a l) := specOk_l0 c1 wa l c4 l.length 0 (by omega) k (by omega)
          obtain ⟨v, hv, ev⟩ := implOk_l0 c1 l c4 l.length 0 (by omega)
          have e2 : impl_Word_65_38.l0 (k + 1) l l.length 0 a = some v := hv (k + 1) (by omega)
          unfold impl_Word_37_38.f impl_Word_65_38.f
          rw [e1, e2]
          simp only [Option.bind_some]
          rw [ev, decide_eq_true (show 1 ≤ l.length ∧ l.length ≤ 80 from ⟨c3, c4⟩)]
          simp
        · rw [if_pos (show (l.length : Int) ≥ 1 by omega), decide_eq_false (show ¬ (l.length : Int) ≤ 80 by omega), decide_eq_false (show ¬ (1 ≤ l.length ∧ l.length ≤ 80) by omega)]
          simp [spec_l04Ok.j0]
      · rw [if_neg (show ¬ (l.length : Int) ≥ 1 by omega), decide_eq_false (show ¬ (1 ≤ l.length ∧ l.length ≤ 80) by omega)]
        simp [spec_l04Ok.j0]
    · rw [Bool.eq_false_iff.mpr c2]; simp [spec_l04Ok.j0]
  · rw [Bool.eq_false_iff.mpr c1]; simp [spec_l04Ok.j0]
theorem okF_says {a kd : Int} {l : List S35} (h : okF a kd l = true) : (1 ≤ a ∧ a ≤ 4) ∧ (0 ≤ kd ∧ kd ≤ 2) ∧ (1 ≤ l.length ∧ l.length ≤ 80) ∧ ∀ x ∈ l, wordB a x.f0 x.f1 x.f2 x.f3 = true := by
  unfold okF okL okK allW at h
  simp only [Bool.and_eq_true, decide_eq_true_eq, List.all_eq_true] at h
  exact h

end Go.Proofs.YtmfbcklaomigaaaDoor.D
