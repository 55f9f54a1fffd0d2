/- LeastDistance: both sides give the least of the distances. -/
import Derived.Test.YtmfbcklaomigaaaLNDistN
import Derived.Test.YtmfbcklaomigaaaLNSeenN
import Derived.Test.YtmfbcklaomigaaaLTBaseN
import Derived.Test.YtmfbcklaomigaaaLTCasesN
import Derived.Test.YtmfbcklaomigaaaLTOkN
import Derived.Test.YtmfbcklaomigaaaNx11
import Derived.Test.YtmfbcklaomigaaaNx12
import Derived.Test.YtmfbcklaomigaaaNx13
import Derived.Test.YtmfbcklaomigaaaNx16
import Derived.Test.YtmfbcklaomigaaaNx18
import Derived.Test.YtmfbcklaomigaaaNx20
import Derived.Test.YtmfbcklaomigaaaNx21
import Derived.Test.YtmfbcklaomigaaaNx22
import Derived.Test.YtmfbcklaomigaaaNx9
namespace Go.Proofs.Ytmfbcklaomigaaa.N
open Go.RowKit Go.Proofs.YtmfbcklaomigaaaW.PrintWords Go.Proofs.YtmfbcklaomigaaaW.PrintLast Go.Proofs.YtmfbcklaomigaaaW.PrintMore
set_option linter.unusedVariables false
set_option linter.unusedSimpArgs false

theorem take38 (L : List S38) (j i : Nat) (h : i < j) : (L.take j).getD i z38 = L.getD i z38 := by
  rw [List.getD_eq_getElem?_getD, List.getD_eq_getElem?_getD, List.getElem?_take_of_lt h]
theorem min_f (x t : Int) : spec_l00Min.f x t = some (mn x t) := by
  unfold spec_l00Min.f mn
  by_cases h : x < t
  · rw [if_pos h]; congr 1; split <;> omega
  · rw [if_neg h]; congr 1; split <;> omega
theorem mn_le (x t : Int) : mn x t ≤ x ∧ mn x t ≤ t ∧ (0 ≤ x → 0 ≤ t → 0 ≤ mn x t) := by
  unfold mn; split <;> omega
theorem impl_step (a kd : Int) (l : List S43) (L : List S38) (hl : ∀ x ∈ L, x.f0 < l.length) (hL : L.length ≤ 30) (j i : Nat) (hj : j < L.length) (hi : i < j) (x : Int) (k : Nat) (hk : 20 < k) :
    impl_LeastDistance.l1 (k + 1) L x L (L.length : Int) j (L.take j) (j : Int) i a kd l (L.getD j z38).f0 (L.getD j z38).f1 = impl_LeastDistance.l1 k L (mn x (dist (sn l (L.getD i z38)) (sn l (L.getD j z38)))) L (L.length : Int) j (L.take j) (j : Int) ((i + 1 : Nat) : Int) a kd l (L.getD j z38).f0 (L.getD j z38).f1 := by
  have ht : (L.take j).length = j := by rw [List.length_take]; omega
  have s1 := (sn_f a kd l (L.getD i z38) (hl _ (zob L i (by omega))) k (by omega)).2
  have s2 := (sn_f a kd l (L.getD j z38) (hl _ (zob L j hj)) k (by omega)).2
  have d1 := (dist_f (sn l (L.getD i z38)) (sn l (L.getD j z38)) k (by omega)).1
  rw [impl_LeastDistance.l1, ht, if_pos (show (i : Int) < j by omega), if_pos (show (0 : Int) ≤ i by omega), if_pos (show (i : Int) < j by omega), zrc, take38 L j i hi, s1, Option.bind_some, s2, Option.bind_some, d1, Option.bind_some, zpc (j := i) (n := L.length) (by omega) (by omega)]
theorem spec_step (a kd : Int) (l : List S43) (L : List S38) (hl : ∀ x ∈ L, x.f0 < l.length) (hL : L.length ≤ 30) (j i : Nat) (hj : j < L.length) (hi : i < j) (x : Int) (k : Nat) (hk : 20 < k) :
    spec_LeastDistance.l1 (k + 1) L x j i a kd l = spec_LeastDistance.l1 k L (mn x (dist (sn l (L.getD i z38)) (sn l (L.getD j z38)))) j ((i + 1 : Nat) : Int) a kd l := by
  have s1 := (sn_f a kd l (L.getD i z38) (hl _ (zob L i (by omega))) k (by omega)).1
  have s2 := (sn_f a kd l (L.getD j z38) (hl _ (zob L j hj)) k (by omega)).1
  have d1 := (dist_f (sn l (L.getD i z38)) (sn l (L.getD j z38)) k (by omega)).2
  rw [spec_LeastDistance.l1, if_pos (show (i : Int) < j by omega), if_pos (show (0 : Int) ≤ i by omega), if_pos (show (i : Int) < L.length by omega), zrc, s1, Option.bind_some, if_pos (show (0 : Int) ≤ j by omega), if_pos (show (j : Int) < L.length by omega), zrc, s2, Option.bind_some, d1, Option.bind_some, min_f, Option.bind_some, zpc (j := i) (n := L.length) (by omega) (by omega)]
theorem least_inner (a kd : Int) (l : List S43) (L : List S38) (hl : ∀ x ∈ L, x.f0 < l.length) (hL : L.length ≤ 30) (j : Nat) (hj : j < L.length) (e : Nat) : ∀ (i : Nat) (x : Int), i + e = j → 0 ≤ x →
    ∃ x', (∀ k, 20 < k → impl_LeastDistance.l1 (k + e + 1) L x L (L.length : Int) j (L.take j) (j : Int) i a kd l (L.getD j z38).f0 (L.getD j z38).f1 = impl_LeastDistance.l0 k L x' L (L.length : Int) ((j + 1 : Nat) : Int) a kd l ∧
      spec_LeastDistance.l1 (k + e + 1) L x j i a kd l = spec_LeastDistance.l0 k L x' ((j + 1 : Nat) : Int) a kd l) ∧ 0 ≤ x' ∧ x' ≤ x ∧ ∀ i', i ≤ i' → i' < j → x' ≤ dist (sn l (L.getD i' z38)) (sn l (L.getD j z38)) := by
  induction e with
  | zero =>
    intro i x hi h0
    refine ⟨x, fun k hk => ?_, h0, Int.le_refl _, fun i' h1 h2 => by omega⟩
    have e1 : impl_LeastDistance.l1 (k + 1) L x L (L.length : Int) j (L.take j) (j : Int) i a kd l (L.getD j z38).f0 (L.getD j z38).f1 = impl_LeastDistance.l0 k L x L (L.length : Int) ((j + 1 : Nat) : Int) a kd l := by
      rw [impl_LeastDistance.l1, if_neg (by omega), zpc (j := j) (n := L.length) (by omega) (by omega)]
    have e2 : spec_LeastDistance.l1 (k + 1) L x j i a kd l = spec_LeastDistance.l0 k L x ((j + 1 : Nat) : Int) a kd l := by
      rw [spec_LeastDistance.l1, if_neg (by omega), zpc (j := j) (n := L.length) (by omega) (by omega)]
    exact ⟨e1, e2⟩
  | succ e ih =>
    intro i x hi h0
    have hd := dist_nn (sn l (L.getD i z38)) (sn l (L.getD j z38))
    have hm := mn_le x (dist (sn l (L.getD i z38)) (sn l (L.getD j z38)))
    obtain ⟨x', hx, g0, g1, g2⟩ := ih (i + 1) (mn x (dist (sn l (L.getD i z38)) (sn l (L.getD j z38)))) (by omega) (hm.2.2 h0 hd.1)
    refine ⟨x', fun k hk => ?_, g0, by omega, fun i' h1 h2 => ?_⟩
    · have hf : k + (e + 1) + 1 = (k + e + 1) + 1 := by omega
      rw [hf]
      exact ⟨(impl_step a kd l L hl hL j i hj (by omega) x (k + e + 1) (by omega)).trans (hx k hk).1, (spec_step a kd l L hl hL j i hj (by omega) x (k + e + 1) (by omega)).trans (hx k hk).2⟩
    · by_cases c : i' = i
      · subst c; omega
      · exact g2 i' (by omega) h2
theorem least_outer (a kd : Int) (l : List S43) (L : List S38) (hl : ∀ x ∈ L, x.f0 < l.length) (hL : L.length ≤ 30) (d : Nat) : ∀ (j : Nat) (x : Int), j + d = L.length → 0 ≤ x →
    ∃ v, (∀ k, 40 * d + 30 < k → impl_LeastDistance.l0 k L x L (L.length : Int) j a kd l = some (v, 0) ∧ spec_LeastDistance.l0 k L x j a kd l = some (v, 0)) ∧ 0 ≤ v ∧ v ≤ x ∧
      ∀ i' j', j ≤ j' → i' < j' → j' < L.length → v ≤ dist (sn l (L.getD i' z38)) (sn l (L.getD j' z38)) := by
  induction d with
  | zero =>
    intro j x hj h0
    refine ⟨x, fun k hk => ?_, h0, Int.le_refl _, fun i' j' h1 h2 h3 => by omega⟩
    obtain ⟨k, rfl⟩ : ∃ m, k = m + 1 := ⟨k - 1, by omega⟩
    rw [impl_LeastDistance.l0, spec_LeastDistance.l0, if_neg (by omega), if_neg (by omega)]
    exact ⟨rfl, rfl⟩
  | succ d ih =>
    intro j x hj h0
    obtain ⟨x', hx, g0, g1, g2⟩ := least_inner a kd l L hl hL j (by omega) j 0 x (by omega) h0
    obtain ⟨v, hv, f0, f1, f2⟩ := ih (j + 1) x' (by omega) g0
    refine ⟨v, fun k hk => ?_, f0, by omega, fun i' j' h1 h2 h3 => ?_⟩
    · obtain ⟨k, rfl⟩ : ∃ m, k = (m + j + 1) + 1 := ⟨k - j - 2, by omega⟩
      have ht : (L.take j).length = j := by rw [List.length_take]; omega
      have h1 := hx k (by omega)
      have h2 := hv k (by omega)
      have e1 : impl_LeastDistance.l0 (k + j + 1 + 1) L x L (L.length : Int) j a kd l = impl_LeastDistance.l1 (k + j + 1) L x L (L.length : Int) j (L.take j) (j : Int) ((0 : Nat) : Int) a kd l (L.getD j z38).f0 (L.getD j z38).f1 := by
        rw [impl_LeastDistance.l0, if_pos (by omega), if_pos (by omega), if_pos (by omega), if_pos (by omega), Option.bind_some, zrc, show ((j : Int)).toNat = j from Int.toNat_natCast j, ht]; rfl
      have e2 : spec_LeastDistance.l0 (k + j + 1 + 1) L x j a kd l = spec_LeastDistance.l1 (k + j + 1) L x j ((0 : Nat) : Int) a kd l := by
        rw [spec_LeastDistance.l0, if_pos (by omega)]; rfl
      exact ⟨e1.trans (h1.1.trans h2.1), e2.trans (h1.2.trans h2.2)⟩
    · by_cases c : j' = j
      · subst c; have := g2 i' (by omega) h2; omega
      · exact f2 i' j' (by omega) h2 h3
theorem least_f {a kd : Int} {l : List S43} (hok : okF a kd l = true) (L : List S38) (hc : ∀ k, 20 < k → spec_l04Cases.f k a kd l = some L ∧ impl_Fixed_cases.f k a kd l = some L) (hl : ∀ x ∈ L, x.f0 < l.length) (h1 : 1 ≤ L.length) (hL : L.length ≤ 27) :
    ∃ v, (∀ k, 2000 < k → impl_LeastDistance.f k a kd l = some (v, 0) ∧ spec_LeastDistance.f k a kd l = some (v, 0)) ∧ 0 ≤ v ∧ v ≤ 4 ∧ ∀ i' j' : Nat, i' < j' → j' < L.length → v ≤ dist (sn l (L.getD i' z38)) (sn l (L.getD j' z38)) := by
  obtain ⟨⟨ha1, ha4⟩, ⟨hk0, hk2⟩, ⟨hl1, hl2⟩, hall⟩ := zuc hok
  obtain ⟨v, hv, f0, f1, f2⟩ := least_outer a kd l L hl (by omega) (L.length - 1) 1 4 (by omega) (by decide)
  refine ⟨v, fun k hk => ?_, f0, f1, fun i' j' h2 h3 => f2 i' j' (by omega) h2 h3⟩
  have e1 : impl_LeastDistance.l0 k L 4 L (L.length : Int) 0 a kd l = some (v, 0) := by
    obtain ⟨k, rfl⟩ : ∃ m, k = (m + 1) + 1 := ⟨k - 2, by omega⟩
    rw [impl_LeastDistance.l0, if_pos (by omega), if_pos (by omega), if_pos (by omega), if_pos (by omega)]
    simp only [Option.bind_some]
    rw [impl_LeastDistance.l1, show (L.take (Int.toNat 0)).length = 0 by simp, if_neg (by decide), wn_0]
    exact (hv k (by omega)).1
  have e2 : spec_LeastDistance.l0 k L 4 1 a kd l = some (v, 0) := (hv k (by omega)).2
  unfold impl_LeastDistance.f spec_LeastDistance.f
  rw [(zod (by omega) (by omega) l k (by omega)).1, (zod (by omega) (by omega) l k (by omega)).2, hok, (hc k (by omega)).1, (hc k (by omega)).2]
  simp only [Option.bind_some, if_true]
  exact ⟨e1, e2⟩
theorem apart_of {l : List S43} {v : Int} : ∀ (L : List S38), (∀ i' j' : Nat, i' < j' → j' < L.length → v ≤ dist (sn l (L.getD i' z38)) (sn l (L.getD j' z38))) → L.Pairwise fun x y => v ≤ dist (sn l x) (sn l y)
  | [], _ => List.Pairwise.nil
  | x :: L, h => by
    refine List.Pairwise.cons (fun y hy => ?_) (apart_of L fun i j h1 h2 => h (i + 1) (j + 1) (by omega) (by simp; omega))
    obtain ⟨n, hn, e⟩ := List.mem_iff_getElem.mp hy
    have := h 0 (n + 1) (by omega) (by simp; omega)
    have e2 : (x :: L).getD (n + 1) z38 = y := by rw [List.getD_cons_succ, List.getD_eq_getElem?_getD, List.getElem?_eq_getElem hn, Option.getD_some, e]
    rw [e2] at this
    exact this

end Go.Proofs.Ytmfbcklaomigaaa.N
