/- DecodeNear: both sides filter the cases. -/
import Derived.Test.YtmfbcklaomigaaaLNDistN
import Derived.Test.YtmfbcklaomigaaaLNSeenN
import Derived.Test.YtmfbcklaomigaaaLTBaseN
import Derived.Test.YtmfbcklaomigaaaLTCasesN
import Derived.Test.YtmfbcklaomigaaaLTOkN
import Derived.Test.YtmfbcklaomigaaaNx11
import Derived.Test.YtmfbcklaomigaaaNx12
import Derived.Test.YtmfbcklaomigaaaNx15
import Derived.Test.YtmfbcklaomigaaaNx16
import Derived.Test.YtmfbcklaomigaaaNx18
import Derived.Test.YtmfbcklaomigaaaNx2
import Derived.Test.YtmfbcklaomigaaaNx20
import Derived.Test.YtmfbcklaomigaaaNx21
import Derived.Test.YtmfbcklaomigaaaNx23
import Derived.Test.YtmfbcklaomigaaaNx24
import Derived.Test.YtmfbcklaomigaaaNx25
import Derived.Test.YtmfbcklaomigaaaNx26
import Derived.Test.YtmfbcklaomigaaaNx8
import Derived.Test.YtmfbcklaomigaaaNx9
namespace Go.Proofs.Ytmfbcklaomigaaa.N
open Go.RowKit Go.Proofs.YtmfbcklaomigaaaW.PrintWords Go.Proofs.YtmfbcklaomigaaaW.PrintLast Go.Proofs.YtmfbcklaomigaaaW.PrintMore
set_option linter.unusedVariables false
set_option linter.unusedSimpArgs false

def near (l : List S43) (w : T4) (g : Int) (c : S38) : Bool := decide (dist (sn l c) w ≤ g)
def fin (zs : List S38) : Int × Bool × Int := match zs with
  | [] => (0, false, 6)
  | [c] => (c.f0, c.f1, 0)
  | _ :: _ :: _ => (0, false, 8)
theorem drop38_at (xs : List S38) (j : Nat) (h : j < xs.length) : xs.drop j = xs.getD j z38 :: xs.drop (j + 1) := by
  rw [List.getD_eq_getElem?_getD, List.getElem?_eq_getElem h, Option.getD_some]
  exact List.drop_eq_getElem_cons h
theorem zcf (a kd : Int) (l : List S43) (c : S38) (hx : c.f0 < l.length) (w : T4) (g : Int) (k : Nat) (hk : 10 < k) : impl_DecodeNear_1.f k c.f0 c.f1 a kd l w.1 w.2.1 w.2.2.1 w.2.2.2 g = some (!(near l w g c)) := by
  unfold impl_DecodeNear_1.f near
  rw [(sn_f a kd l c hx k hk).2]
  simp only [Option.bind_some]
  rw [(dist_f (sn l c) w k (by omega)).1]
  simp only [Option.bind_some]
  congr 1
  by_cases c : dist (sn l c) w ≤ g
  · rw [decide_eq_true c, decide_eq_false (by omega)]; rfl
  · rw [decide_eq_false c, decide_eq_true (by omega)]; rfl
theorem find_l0 (a kd : Int) (l : List S43) (w : T4) (g : Int) (L : List S38) (hl : ∀ x ∈ L, x.f0 < l.length) (hL : L.length ≤ 30) (d : Nat) : ∀ j : Nat, j + d = L.length → ∀ k, d + 11 < k → ∃ v, impl_Case_79_85.l0 k L (L.length : Int) j a kd l w.1 w.2.1 w.2.2.1 w.2.2.2 g = some v := by
  induction d with
  | zero =>
    intro j hj k hk
    obtain ⟨k, rfl⟩ : ∃ m, k = m + 1 := ⟨k - 1, by omega⟩
    rw [impl_Case_79_85.l0, if_neg (by omega)]
    exact ⟨_, rfl⟩
  | succ d ih =>
    intro j hj k hk
    obtain ⟨k, rfl⟩ : ∃ m, k = m + 1 := ⟨k - 1, by omega⟩
    rw [impl_Case_79_85.l0, if_pos (by omega), if_pos (by omega), if_pos (by omega), zrc, zcf a kd l (L.getD j z38) (hl _ (zob L j (by omega))) w g k (by omega), zpc (j := j) (n := L.length) (by omega) (by omega)]
    simp only [Option.bind_some]
    split
    · exact ⟨_, rfl⟩
    · exact ih (j + 1) (by omega) k (by omega)
theorem keep_l0 (a kd : Int) (l : List S43) (w : T4) (g : Int) (L : List S38) (hl : ∀ x ∈ L, x.f0 < l.length) (hL : L.length ≤ 30) (d : Nat) : ∀ (j : Nat) (ys : List S38), j + d = L.length → ys.length ≤ j → ∀ k, d + 11 < k →
    impl_Case_84_85.l0 k L ys j a kd l w.1 w.2.1 w.2.2.1 w.2.2.2 g = some (ys ++ (L.drop j).filter (near l w g)) ∧ spec_DecodeNear.l0 k g L ys j a kd l w.1 w.2.1 w.2.2.1 w.2.2.2 = some (fin (ys ++ (L.drop j).filter (near l w g))) := by
  induction d with
  | zero =>
    intro j ys hj hy k hk
    obtain ⟨k, rfl⟩ : ∃ m, k = m + 1 := ⟨k - 1, by omega⟩
    rw [impl_Case_84_85.l0, if_neg (by omega), spec_DecodeNear.l0, if_neg (by omega), List.drop_of_length_le (by omega), List.filter_nil, List.append_nil]
    refine ⟨rfl, ?_⟩
    match ys with
    | [] => rfl
    | [c] => rfl
    | c :: c' :: r => rw [if_neg (by simp only [List.length_cons]; omega), if_pos (by simp only [List.length_cons]; omega)]; rfl
  | succ d ih =>
    intro j ys hj hy k hk
    obtain ⟨k, rfl⟩ : ∃ m, k = m + 1 := ⟨k - 1, by omega⟩
    have hx : (L.getD j z38).f0 < l.length := hl _ (zob L j (by omega))
    rw [impl_Case_84_85.l0, if_pos (by omega), if_pos (by omega), spec_DecodeNear.l0, if_pos (by omega), if_pos (by omega), zrc, zcf a kd l (L.getD j z38) hx w g k (by omega), zpc (j := j) (n := L.length) (by omega) (by omega), (sn_f a kd l (L.getD j z38) hx k (by omega)).1, drop38_at L j (by omega)]
    simp only [Option.bind_some]
    rw [(dist_f (sn l (L.getD j z38)) w k (by omega)).2]
    simp only [Option.bind_some]
    by_cases c : dist (sn l (L.getD j z38)) w ≤ g
    · have cn : near l w g (L.getD j z38) = true := decide_eq_true c
      rw [cn, if_neg (by decide), if_pos (by omega), if_pos c, if_pos (by omega), List.filter_cons_of_pos cn]
      have := ih (j + 1) (ys ++ [L.getD j z38]) (by omega) (by simp; omega) k (by omega)
      rw [List.append_assoc, List.singleton_append] at this
      exact this
    · have cn : near l w g (L.getD j z38) = false := decide_eq_false c
      rw [cn, if_pos (by decide), if_neg c, List.filter_cons_of_neg (by rw [cn]; decide)]
      exact ih (j + 1) ys (by omega) (by omega) k (by omega)
theorem zqe {a kd : Int} {l : List S43} (hok : okF a kd l = true) (L : List S38) (hc : ∀ k, 20 < k → spec_l04Cases.f k a kd l = some L ∧ impl_Fixed_cases.f k a kd l = some L) (hl : ∀ x ∈ L, x.f0 < l.length) (hL : L.length ≤ 27) (w : T4) (hw : wB a w) (g : Int) (hg : 0 ≤ g ∧ g ≤ 4) (k : Nat) (hk : 300 < k) :
    impl_DecodeNear.f k a kd l w.1 w.2.1 w.2.2.1 w.2.2.2 g = some (fin (L.filter (near l w g))) ∧ spec_DecodeNear.f k a kd l w.1 w.2.1 w.2.2.1 w.2.2.2 g = some (fin (L.filter (near l w g))) := by
  obtain ⟨⟨ha1, ha4⟩, ⟨hk0, hk2⟩, ⟨hl1, hl2⟩, hall⟩ := zuc hok
  obtain ⟨k, rfl⟩ : ∃ m, k = m + 1 := ⟨k - 1, by omega⟩
  have wa : wrap64 a = a := by unfold wrap64; omega
  have ea : okL a = true := decide_eq_true ⟨ha1, ha4⟩
  have hw' : zad a w.1 w.2.1 w.2.2.1 w.2.2.2 = true := hw
  have kp := keep_l0 a kd l w g L hl (by omega) L.length 0 [] (by omega) (by simp) k (by omega)
  rw [List.drop_zero, List.nil_append] at kp
  obtain ⟨v, hv⟩ := find_l0 a kd l w g L hl (by omega) L.length 0 (by omega) k (by omega)
  have e1 : impl_Case_84_85.f k L a kd l w.1 w.2.1 w.2.2.1 w.2.2.2 g = some (L.filter (near l w g)) := by
    unfold impl_Case_84_85.f impl_Case_79_85.f
    have hv' : impl_Case_79_85.l0 k L (L.length : Int) 0 a kd l w.1 w.2.1 w.2.2.1 w.2.2.2 g = some v := hv
    rw [hv']
    exact kp.1
  unfold impl_DecodeNear.f spec_DecodeNear.f
  rw [(zod (by omega) (by omega) l (k + 1) (by omega)).1, (zod (by omega) (by omega) l (k + 1) (by omega)).2, hok, wa, (word_f a w.1 w.2.1 w.2.2.1 w.2.2.2 ea (k + 1) (by omega)).1, (word_f a w.1 w.2.1 w.2.2.1 w.2.2.2 ea (k + 1) (by omega)).2, hw']
  simp only [Option.bind_some, if_true, Bool.not_true]
  rw [impl_DecodeNear.j0, spec_DecodeNear.j0, if_neg (by decide), if_neg (by decide)]
  unfold impl_within.f spec_l00In.f
  rw [if_pos hg.1, decide_eq_true hg.2]
  simp only [Option.bind_some, if_true]
  rw [(hc k (by omega)).1, (hc k (by omega)).2]
  simp only [Option.bind_some]
  rw [e1]
  simp only [Option.bind_some]
  refine ⟨?_, kp.2⟩
  match L.filter (near l w g) with
  | [] => rfl
  | [c] => rfl
  | c :: c' :: r => rw [if_neg (by simp only [List.length_cons]; omega), if_neg (by simp only [List.length_cons]; omega)]; rfl

end Go.Proofs.Ytmfbcklaomigaaa.N
