/- Proved: the program's AddAsk answers as the reference's for every game and ask; what it gives back is its own. No conditions. -/
import Derived.Test.YtoicmgphccgdbaaLGValidX
import Derived.Test.YtoicmgphccgdbaaSFnExactAddAsk
import Derived.Test.YtoicmgphccgdbaaXx11
import Derived.Test.YtoicmgphccgdbaaXx3
import Derived.Test.YtoicmgphccgdbaaXx4
import Derived.Test.YtoicmgphccgdbaaXx8
namespace Go.Proofs.Ytoicmgphccgdbaa.Pure
open Go.RowKit Go.Proofs.Ytoicmgphccgdbaa.X Go.Proofs.YtoicmgphccgdbaaW.PrintWords Go.Proofs.YtoicmgphccgdbaaW.PrintLast Go.Proofs.YtoicmgphccgdbaaW.PrintMore
set_option linter.unusedVariables false
set_option linter.unusedSimpArgs false

def mk (i : Nat) : S75 := ⟨IntKind.u64.wrap (i : Int), (Int.tmod (((i + 1 : Nat)) : Int) 3) == 0⟩
theorem getD_set_self (l : List S75) (j : Nat) (h : j < l.length) (x : S75) : (l.set j x).getD j z75 = x := by
  simp only [List.getD_eq_getElem?_getD]; rw [List.getElem?_set_self h]; rfl
theorem getD_set_ne (l : List S75) (j q : Nat) (h : j ≠ q) (x : S75) : (l.set j x).getD q z75 = l.getD q z75 := by
  simp only [List.getD_eq_getElem?_getD]; rw [List.getElem?_set_ne h]
theorem mark_l0 (d : Nat) : ∀ (l : List S75) (i j : Nat), j + d = l.length → i + 2 * d ≤ 140737488355328 → l.length ≤ 140737488355328 → ∀ k, d < k →
    ∃ l', laws_markAskS.l0 k l i j = some (((i + 2 * d : Nat) : Int), l') ∧ l'.length = l.length ∧ (∀ q, q < j → l'.getD q z75 = l.getD q z75) ∧ (∀ q, j ≤ q → q < l.length → l'.getD q z75 = mk (i + 2 * (q - j))) := by
  induction d with
  | zero =>
    intro l i j hj hi hl k hk
    obtain ⟨k, rfl⟩ : ∃ m, k = m + 1 := ⟨k - 1, by omega⟩
    refine ⟨l, ?_, rfl, fun _ _ => rfl, fun q h1 h2 => by omega⟩
    simp only [laws_markAskS.l0]; rw [if_neg (by omega)]; simp
  | succ d ih =>
    intro l i j hj hi hl k hk
    obtain ⟨k, rfl⟩ : ∃ m, k = m + 1 := ⟨k - 1, by omega⟩
    simp only [laws_markAskS.l0, Option.bind_some]
    rw [if_pos (by omega), if_pos (by omega), next_i (j := j) (n := l.length) (by omega) hl, next_i (n := 140737488355328) (j := i) (by omega) (by omega), next_i (n := 140737488355328) (j := i + 1) (by omega) (by omega), Int.toNat_natCast, rd75_at, rd75_at]
    rw [getD_set_self l j (by omega)]
    have two : (l.set j (⟨IntKind.u64.wrap (i : Int), (l.getD j z75).f1⟩ : S75)).set j (⟨IntKind.u64.wrap (i : Int), (Int.tmod (((i + 1 : Nat)) : Int) 3) == 0⟩ : S75) = l.set j (mk i) := by
      rw [List.set_set]; rfl
    simp only
    rw [two]
    obtain ⟨l', e, el, e1, e2⟩ := ih (l.set j (mk i)) (i + 1 + 1) (j + 1) (by rw [List.length_set]; omega) (by omega) (by rw [List.length_set]; exact hl) k (by omega)
    rw [List.length_set] at el
    refine ⟨l', ?_, el, fun q h => ?_, fun q h1 h2 => ?_⟩
    · rw [e]; congr 3; omega
    · rw [e1 q (by omega), getD_set_ne l j q (by omega)]
    · by_cases c : q = j
      · subst c
        rw [e1 q (by omega), getD_set_self l q (by omega), show i + 2 * (q - q) = i by omega]
      · rw [e2 q (by omega) (by rw [List.length_set]; exact h2), show i + 1 + 1 + 2 * (q - (j + 1)) = i + 2 * (q - j) by omega]
theorem held_l0 (d : Nat) : ∀ (l : List S75) (i j : Nat), j + d = l.length → i + 2 * d ≤ 140737488355328 → l.length ≤ 140737488355328 → (∀ q, j ≤ q → q < l.length → l.getD q z75 = mk (i + 2 * (q - j))) → ∀ k, d < k →
    laws_heldAskS.l0 k l i j = some ((i + 2 * d : Nat) : Int) := by
  induction d with
  | zero =>
    intro l i j hj hi hl he k hk
    obtain ⟨k, rfl⟩ : ∃ m, k = m + 1 := ⟨k - 1, by omega⟩
    simp only [laws_heldAskS.l0]; rw [if_neg (by omega)]; simp
  | succ d ih =>
    intro l i j hj hi hl he k hk
    obtain ⟨k, rfl⟩ : ∃ m, k = m + 1 := ⟨k - 1, by omega⟩
    have h0 := he j (by omega) (by omega)
    rw [show i + 2 * (j - j) = i by omega] at h0
    simp only [laws_heldAskS.l0]
    rw [if_pos (by omega), if_pos (by omega), rd75_at, h0, next_i (j := j) (n := l.length) (by omega) hl, next_i (n := 140737488355328) (j := i) (by omega) (by omega), next_i (n := 140737488355328) (j := i + 1) (by omega) (by omega)]
    rw [if_pos (show (mk i).f0 = IntKind.u64.wrap (i : Int) from rfl), if_neg (by simp [mk])]
    rw [ih l (i + 1 + 1) (j + 1) (by omega) (by omega) hl (fun q h1 h2 => by rw [he q (by omega) h2, show i + 1 + 1 + 2 * (q - (j + 1)) = i + 2 * (q - j) by omega]) k (by omega)]
    rw [show i + 1 + 1 + 2 * d = i + 2 * (d + 1) by omega]
theorem mark_held (a b : Int) (l : List S75) (hl : l.length ≤ 1048577) (k k2 : Nat) (hk : l.length < k) (hk2 : l.length < k2) :
    ∃ l', laws_markGame.f k a b l 1 = some (((1 + 2 * l.length : Nat) : Int), l') ∧ laws_heldGame.f k2 a b l' 1 = some ((1 + 2 * l.length : Nat) : Int) := by
  obtain ⟨l', e, el, _, e2⟩ := mark_l0 l.length l 1 0 (by omega) (by omega) (by omega) k hk
  have e' : laws_markAskS.f k l 1 = some (((1 + 2 * l.length : Nat) : Int), l') := e
  refine ⟨l', ?_, ?_⟩
  · unfold laws_markGame.f; rw [e']; rfl
  · have h := held_l0 l.length l' 1 0 (by omega) (by omega) (by omega) (fun q h1 h2 => e2 q h1 (by omega)) k2 hk2
    have h' : laws_heldAskS.f k2 l' 1 = some ((1 + 2 * l.length : Nat) : Int) := h
    unfold laws_heldGame.f; rw [h']
    simp only [Option.bind_some]
    rw [if_neg (by omega)]
def added (a b : Int) (l : List S75) (u : Int) (f : Bool) : Int × Int × List S75 × Int :=
  if okG a b l = true then (if Go.bits .andNot .u64 u (fullG a) = 0 then (if l.length = 60 then (0, 0, [], 3) else (a, b, l ++ [⟨u, f⟩], 0)) else (0, 0, [], 2)) else (0, 0, [], 1)
theorem specAdd_f {a b : Int} {l : List S75} (u : Int) (f : Bool) (ha : -128 ≤ a ∧ a ≤ 127) (hb : -128 ≤ b ∧ b ≤ 127) (k : Nat) (hk : 100 < k) : spec_AddAsk.f k a b l u f = some (added a b l u f) := by
  unfold spec_AddAsk.f added
  rw [specOk_f ha hb k hk]
  simp only [Option.bind_some]
  by_cases o : okG a b l = true
  · have w := okG_small o
    rw [if_pos o, if_pos o, show wrap64 a = a by unfold wrap64; omega, specFull_f w.1 w.2.1]
    simp only [Option.bind_some]
    by_cases q : Go.bits .andNot .u64 u (fullG a) = 0
    · rw [if_pos q, if_pos q]
      by_cases c : l.length = 60
      · rw [if_pos (show (l.length : Int) ≥ 60 by omega), if_pos c]
      · rw [if_neg (show ¬ (l.length : Int) ≥ 60 by omega), if_neg c]
        unfold spec_l06With.f
        simp only [Option.bind_some, List.nil_append, List.length_nil, List.length_singleton, Nat.zero_add]
        rw [if_pos (by omega), if_pos (by omega)]
        rfl
    · rw [if_neg q, if_neg q]
  · rw [if_neg o, if_neg o]
theorem implAdd_f {a b : Int} {l : List S75} (u : Int) (f : Bool) (ha : -128 ≤ a ∧ a ≤ 127) (hb : -128 ≤ b ∧ b ≤ 127) (k : Nat) (hk : 100 < k) : impl_AddAsk.f k a b l u f = some (added a b l u f) := by
  unfold impl_AddAsk.f added
  rw [implOk_f ha hb k hk]
  simp only [Option.bind_some]
  by_cases o : okG a b l = true
  · have w := okG_small o
    rw [if_pos o, if_pos o]
    unfold impl_Game_all.f
    rw [if_pos (show 0 ≤ a by omega), show IntKind.u64.wrap ((shl .u64 1 a) - 1) = fullG a from rfl]
    simp only [Option.bind_some]
    by_cases q : Go.bits .andNot .u64 u (fullG a) = 0
    · rw [if_pos q, if_pos q]
      by_cases c : l.length = 60
      · rw [if_pos (show (l.length : Int) = 60 by omega), if_pos c]
      · rw [if_neg (show ¬ (l.length : Int) = 60 by omega), if_neg c]
        unfold impl_Game_with.f impl_Ask_89.f
        simp only [Option.bind_some, List.nil_append, List.length_nil, List.length_singleton, Nat.zero_add]
        rw [if_pos (by omega)]
        simp only [Option.bind_some]
        rw [if_pos (by omega)]
        rfl
    · rw [if_neg q, if_neg q]
  · rw [if_neg o, if_neg o]
theorem added_len (a b : Int) (l : List S75) (u : Int) (f : Bool) (h : l.length ≤ 1048576) : (added a b l u f).2.2.1.length ≤ 100 := by
  unfold added
  split
  · next o =>
    have w := okG_small o
    split
    · split
      · simp
      · simp only [List.length_append, List.length_singleton]; omega
    · simp
  · simp
theorem FnExactAddAsk : laws_FnExactAddAsk.Pure := by
  intro a b xs u f ha hb hx _ _
  obtain ⟨k, hk⟩ : ∃ k : Nat, 1048580 ≤ k := ⟨1048580, by omega⟩
  refine ⟨k + 1 + 1 + 1, ?_⟩
  unfold laws_FnExactAddAsk.f
  rw [szGame_f a b xs _ (by omega) (by omega) hx]
  by_cases q : (1048576 : Int) < xs.length
  · rw [if_pos q]; simp
  · rw [if_neg q]
    simp only [Option.bind_some]
    rw [if_neg (by omega), toGame_f a b xs (by omega) _ (by omega)]
    simp only [Option.bind_some]
    have ml : (xs.map cv).length ≤ 1048576 := by rw [List.length_map]; omega
    have tg := fun k hk => toGame_f a b xs (by omega) k hk
    generalize xs.map cv = ys at ml tg ⊢
    have al := added_len a b ys u f ml
    rw [specAdd_f u f (i8_wf ha) (i8_wf hb) _ (by omega), implAdd_f u f (i8_wf ha) (i8_wf hb) _ (by omega)]
    have im := fun k hk => implAdd_f (l := ys) u f (i8_wf ha) (i8_wf hb) k hk
    generalize added a b ys u f = v at al im ⊢
    obtain ⟨v1, v2, vl, v3⟩ := v
    simp only at al
    simp only [Option.bind_some, bne_self_eq_false]
    rw [eqGame_f v1 v2 vl (by omega) _ (by omega)]
    simp only [Option.bind_some, if_true, laws_FnExactAddAsk.j0, Bool.false_eq_true, if_false]
    rw [tg _ (by omega)]
    simp only [Option.bind_some]
    rw [eqGame_f a b ys ml _ (by omega)]
    simp only [Option.bind_some, if_true]
    obtain ⟨x', m1, _⟩ := mark_held a b ys (by omega) (k + 1 + 1) (k + 1 + 1) (by omega) (by omega)
    rw [m1]
    simp only [Option.bind_some]
    rw [if_neg (by omega), eqGame_f v1 v2 vl (by omega) _ (by omega)]
    simp only [Option.bind_some, if_true, laws_FnExactAddAsk.j1, bne_self_eq_false, Bool.false_eq_true, if_false]
    obtain ⟨y', n1, n2⟩ := mark_held v1 v2 vl (by omega) (k + 1) (k + 1) (by omega) (by omega)
    obtain ⟨z', p1, p2⟩ := mark_held v1 v2 vl (by omega) (k + 1) k (by omega) (by omega)
    have : z' = y' := by rw [n1] at p1; simpa using p1.symm
    subst this
    rw [n1]
    simp only [Option.bind_some]
    rw [n2]
    simp only [Option.bind_some]
    rw [if_neg (by omega)]
    simp only [if_true]
    rw [tg _ (by omega)]
    simp only [Option.bind_some]
    rw [im _ (by omega)]
    simp only [Option.bind_some]
    rw [eqGame_f v1 v2 vl (by omega) _ (by omega)]
    simp only [Option.bind_some, if_true, laws_FnExactAddAsk.j2, bne_self_eq_false, Bool.false_eq_true, if_false]
    rw [p2]
    simp only [Option.bind_some]
    rw [if_neg (by omega)]
    simp

end Go.Proofs.Ytoicmgphccgdbaa.Pure
