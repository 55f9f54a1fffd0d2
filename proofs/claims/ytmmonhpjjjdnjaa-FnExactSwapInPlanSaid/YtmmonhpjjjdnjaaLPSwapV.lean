/- Plans: marked, held, and with two coins swapped. -/
import Derived.Test.YtmmonhpjjjdnjaaLPBaseV
import Derived.Test.YtmmonhpjjjdnjaaLPPlanV
import Derived.Test.YtmmonhpjjjdnjaaLPWeighV
import Derived.Test.YtmmonhpjjjdnjaaVx10
import Derived.Test.YtmmonhpjjjdnjaaVx11
import Derived.Test.YtmmonhpjjjdnjaaVx18
import Derived.Test.YtmmonhpjjjdnjaaVx23
import Derived.Test.YtmmonhpjjjdnjaaVx24
namespace Go.Proofs.Ytmmonhpjjjdnjaa.V
open Go.RowKit Go.Proofs.YtmmonhpjjjdnjaaW.PrintWords Go.Proofs.YtmmonhpjjjdnjaaW.PrintLast Go.Proofs.YtmmonhpjjjdnjaaW.PrintMore
set_option linter.unusedVariables false
set_option linter.unusedSimpArgs false
theorem zya (out : List S54) (j : Nat) (e : S54) (hj : j < out.length) : za (out.set j e) (j : Int) = e := by
  rw [zsc, List.getD_eq_getElem?_getD, List.getElem?_set_self hj]; rfl
theorem set_rd54 (out : List S54) (j : Nat) (hj : j < out.length) : out.set j (za out (j : Int)) = out := by
  rw [zsc, List.getD_eq_getElem?_getD, List.getElem?_eq_getElem hj]
  exact List.set_getElem_self hj
def mk54 (c : Int) : S54 := ⟨⟨IntKind.i8.wrap (c + 0), IntKind.i8.wrap (c + 1), IntKind.i8.wrap (c + 2), IntKind.i8.wrap (c + 3), IntKind.i8.wrap (c + 4), IntKind.i8.wrap (c + 5), IntKind.i8.wrap (c + 6), IntKind.i8.wrap (c + 7), IntKind.i8.wrap (c + 8), IntKind.i8.wrap (c + 9), IntKind.i8.wrap (c + 10), IntKind.i8.wrap (c + 11), IntKind.i8.wrap (c + 12), IntKind.i8.wrap (c + 13)⟩, ⟨IntKind.i16.wrap (c + 14), IntKind.i16.wrap (c + 15), IntKind.i16.wrap (c + 16)⟩, ⟨IntKind.i8.wrap (c + 17), (Int.tmod (c + 18) 3) == 0⟩, (Int.tmod (c + 19) 3) == 0⟩
def mkq (q : Nat) (c : Int) (x : S54) : S54 := ⟨⟨(if 0 < q then IntKind.i8.wrap (c + 0) else x.f0.f0), (if 1 < q then IntKind.i8.wrap (c + 1) else x.f0.f1), (if 2 < q then IntKind.i8.wrap (c + 2) else x.f0.f2), (if 3 < q then IntKind.i8.wrap (c + 3) else x.f0.f3), (if 4 < q then IntKind.i8.wrap (c + 4) else x.f0.f4), (if 5 < q then IntKind.i8.wrap (c + 5) else x.f0.f5), (if 6 < q then IntKind.i8.wrap (c + 6) else x.f0.f6), (if 7 < q then IntKind.i8.wrap (c + 7) else x.f0.f7), (if 8 < q then IntKind.i8.wrap (c + 8) else x.f0.f8), (if 9 < q then IntKind.i8.wrap (c + 9) else x.f0.f9), (if 10 < q then IntKind.i8.wrap (c + 10) else x.f0.f10), (if 11 < q then IntKind.i8.wrap (c + 11) else x.f0.f11), (if 12 < q then IntKind.i8.wrap (c + 12) else x.f0.f12), (if 13 < q then IntKind.i8.wrap (c + 13) else x.f0.f13)⟩, x.f1, x.f2, x.f3⟩
def nkq (q : Nat) (c : Int) (x : S54) : S54 := ⟨x.f0, ⟨(if 0 < q then IntKind.i16.wrap (c + 14) else x.f1.f0), (if 1 < q then IntKind.i16.wrap (c + 15) else x.f1.f1), (if 2 < q then IntKind.i16.wrap (c + 16) else x.f1.f2)⟩, x.f2, x.f3⟩
theorem mm_0 (out : List S54) (x : S54) (j : Nat) (hj : j < out.length) (c : Int) (hc : 0 ≤ c ∧ c ≤ 100000000) (k : Nat) : laws_markNodeS.l1 (k + 1) (out.set j (mkq 0 c x)) (c + 0) (j : Int) 0 = laws_markNodeS.l1 k (out.set j (mkq 1 c x)) (c + 1) (j : Int) 1 := by
  have hw : wrap64 (c + 0 + 1) = c + 1 := by unfold wrap64; omega
  simp only [laws_markNodeS.l1]
  rw [if_pos (by decide), if_pos (by omega), if_pos (by rw [List.length_set]; omega), if_pos (by decide), zya out j _ hj, Int.toNat_natCast, List.set_set, wn_0, hw]
  rfl
theorem mm_1 (out : List S54) (x : S54) (j : Nat) (hj : j < out.length) (c : Int) (hc : 0 ≤ c ∧ c ≤ 100000000) (k : Nat) : laws_markNodeS.l1 (k + 1) (out.set j (mkq 1 c x)) (c + 1) (j : Int) 1 = laws_markNodeS.l1 k (out.set j (mkq 2 c x)) (c + 2) (j : Int) 2 := by
  have hw : wrap64 (c + 1 + 1) = c + 2 := by unfold wrap64; omega
  simp only [laws_markNodeS.l1]
  rw [if_pos (by decide), if_pos (by omega), if_pos (by rw [List.length_set]; omega), if_pos (by decide), zya out j _ hj, Int.toNat_natCast, List.set_set, wn_1, hw]
  rfl
theorem mm_2 (out : List S54) (x : S54) (j : Nat) (hj : j < out.length) (c : Int) (hc : 0 ≤ c ∧ c ≤ 100000000) (k : Nat) : laws_markNodeS.l1 (k + 1) (out.set j (mkq 2 c x)) (c + 2) (j : Int) 2 = laws_markNodeS.l1 k (out.set j (mkq 3 c x)) (c + 3) (j : Int) 3 := by
  have hw : wrap64 (c + 2 + 1) = c + 3 := by unfold wrap64; omega
  simp only [laws_markNodeS.l1]
  rw [if_pos (by decide), if_pos (by omega), if_pos (by rw [List.length_set]; omega), if_pos (by decide), zya out j _ hj, Int.toNat_natCast, List.set_set, wn_2, hw]
  rfl
theorem mm_3 (out : List S54) (x : S54) (j : Nat) (hj : j < out.length) (c : Int) (hc : 0 ≤ c ∧ c ≤ 100000000) (k : Nat) : laws_markNodeS.l1 (k + 1) (out.set j (mkq 3 c x)) (c + 3) (j : Int) 3 = laws_markNodeS.l1 k (out.set j (mkq 4 c x)) (c + 4) (j : Int) 4 := by
  have hw : wrap64 (c + 3 + 1) = c + 4 := by unfold wrap64; omega
  simp only [laws_markNodeS.l1]
  rw [if_pos (by decide), if_pos (by omega), if_pos (by rw [List.length_set]; omega), if_pos (by decide), zya out j _ hj, Int.toNat_natCast, List.set_set, wn_3, hw]
  rfl
theorem mm_4 (out : List S54) (x : S54) (j : Nat) (hj : j < out.length) (c : Int) (hc : 0 ≤ c ∧ c ≤ 100000000) (k : Nat) : laws_markNodeS.l1 (k + 1) (out.set j (mkq 4 c x)) (c + 4) (j : Int) 4 = laws_markNodeS.l1 k (out.set j (mkq 5 c x)) (c + 5) (j : Int) 5 := by
  have hw : wrap64 (c + 4 + 1) = c + 5 := by unfold wrap64; omega
  simp only [laws_markNodeS.l1]
  rw [if_pos (by decide), if_pos (by omega), if_pos (by rw [List.length_set]; omega), if_pos (by decide), zya out j _ hj, Int.toNat_natCast, List.set_set, wn_4, hw]
  rfl
theorem mm_5 (out : List S54) (x : S54) (j : Nat) (hj : j < out.length) (c : Int) (hc : 0 ≤ c ∧ c ≤ 100000000) (k : Nat) : laws_markNodeS.l1 (k + 1) (out.set j (mkq 5 c x)) (c + 5) (j : Int) 5 = laws_markNodeS.l1 k (out.set j (mkq 6 c x)) (c + 6) (j : Int) 6 := by
  have hw : wrap64 (c + 5 + 1) = c + 6 := by unfold wrap64; omega
  simp only [laws_markNodeS.l1]
  rw [if_pos (by decide), if_pos (by omega), if_pos (by rw [List.length_set]; omega), if_pos (by decide), zya out j _ hj, Int.toNat_natCast, List.set_set, wn_5, hw]
  rfl
theorem mm_6 (out : List S54) (x : S54) (j : Nat) (hj : j < out.length) (c : Int) (hc : 0 ≤ c ∧ c ≤ 100000000) (k : Nat) : laws_markNodeS.l1 (k + 1) (out.set j (mkq 6 c x)) (c + 6) (j : Int) 6 = laws_markNodeS.l1 k (out.set j (mkq 7 c x)) (c + 7) (j : Int) 7 := by
  have hw : wrap64 (c + 6 + 1) = c + 7 := by unfold wrap64; omega
  simp only [laws_markNodeS.l1]
  rw [if_pos (by decide), if_pos (by omega), if_pos (by rw [List.length_set]; omega), if_pos (by decide), zya out j _ hj, Int.toNat_natCast, List.set_set, wn_6, hw]
  rfl
theorem mm_7 (out : List S54) (x : S54) (j : Nat) (hj : j < out.length) (c : Int) (hc : 0 ≤ c ∧ c ≤ 100000000) (k : Nat) : laws_markNodeS.l1 (k + 1) (out.set j (mkq 7 c x)) (c + 7) (j : Int) 7 = laws_markNodeS.l1 k (out.set j (mkq 8 c x)) (c + 8) (j : Int) 8 := by
  have hw : wrap64 (c + 7 + 1) = c + 8 := by unfold wrap64; omega
  simp only [laws_markNodeS.l1]
  rw [if_pos (by decide), if_pos (by omega), if_pos (by rw [List.length_set]; omega), if_pos (by decide), zya out j _ hj, Int.toNat_natCast, List.set_set, wn_7, hw]
  rfl
theorem mm_8 (out : List S54) (x : S54) (j : Nat) (hj : j < out.length) (c : Int) (hc : 0 ≤ c ∧ c ≤ 100000000) (k : Nat) : laws_markNodeS.l1 (k + 1) (out.set j (mkq 8 c x)) (c + 8) (j : Int) 8 = laws_markNodeS.l1 k (out.set j (mkq 9 c x)) (c + 9) (j : Int) 9 := by
  have hw : wrap64 (c + 8 + 1) = c + 9 := by unfold wrap64; omega
  simp only [laws_markNodeS.l1]
  rw [if_pos (by decide), if_pos (by omega), if_pos (by rw [List.length_set]; omega), if_pos (by decide), zya out j _ hj, Int.toNat_natCast, List.set_set, wn_8, hw]
  rfl
theorem mm_9 (out : List S54) (x : S54) (j : Nat) (hj : j < out.length) (c : Int) (hc : 0 ≤ c ∧ c ≤ 100000000) (k : Nat) : laws_markNodeS.l1 (k + 1) (out.set j (mkq 9 c x)) (c + 9) (j : Int) 9 = laws_markNodeS.l1 k (out.set j (mkq 10 c x)) (c + 10) (j : Int) 10 := by
  have hw : wrap64 (c + 9 + 1) = c + 10 := by unfold wrap64; omega
  simp only [laws_markNodeS.l1]
  rw [if_pos (by decide), if_pos (by omega), if_pos (by rw [List.length_set]; omega), if_pos (by decide), zya out j _ hj, Int.toNat_natCast, List.set_set, wn_9, hw]
  rfl
theorem mm_10 (out : List S54) (x : S54) (j : Nat) (hj : j < out.length) (c : Int) (hc : 0 ≤ c ∧ c ≤ 100000000) (k : Nat) : laws_markNodeS.l1 (k + 1) (out.set j (mkq 10 c x)) (c + 10) (j : Int) 10 = laws_markNodeS.l1 k (out.set j (mkq 11 c x)) (c + 11) (j : Int) 11 := by
  have hw : wrap64 (c + 10 + 1) = c + 11 := by unfold wrap64; omega
  simp only [laws_markNodeS.l1]
  rw [if_pos (by decide), if_pos (by omega), if_pos (by rw [List.length_set]; omega), if_pos (by decide), zya out j _ hj, Int.toNat_natCast, List.set_set, wn_10, hw]
  rfl
theorem mm_11 (out : List S54) (x : S54) (j : Nat) (hj : j < out.length) (c : Int) (hc : 0 ≤ c ∧ c ≤ 100000000) (k : Nat) : laws_markNodeS.l1 (k + 1) (out.set j (mkq 11 c x)) (c + 11) (j : Int) 11 = laws_markNodeS.l1 k (out.set j (mkq 12 c x)) (c + 12) (j : Int) 12 := by
  have hw : wrap64 (c + 11 + 1) = c + 12 := by unfold wrap64; omega
  simp only [laws_markNodeS.l1]
  rw [if_pos (by decide), if_pos (by omega), if_pos (by rw [List.length_set]; omega), if_pos (by decide), zya out j _ hj, Int.toNat_natCast, List.set_set, wn_11, hw]
  rfl
theorem mm_12 (out : List S54) (x : S54) (j : Nat) (hj : j < out.length) (c : Int) (hc : 0 ≤ c ∧ c ≤ 100000000) (k : Nat) : laws_markNodeS.l1 (k + 1) (out.set j (mkq 12 c x)) (c + 12) (j : Int) 12 = laws_markNodeS.l1 k (out.set j (mkq 13 c x)) (c + 13) (j : Int) 13 := by
  have hw : wrap64 (c + 12 + 1) = c + 13 := by unfold wrap64; omega
  simp only [laws_markNodeS.l1]
  rw [if_pos (by decide), if_pos (by omega), if_pos (by rw [List.length_set]; omega), if_pos (by decide), zya out j _ hj, Int.toNat_natCast, List.set_set, wn_12, hw]
  rfl
theorem mm_13 (out : List S54) (x : S54) (j : Nat) (hj : j < out.length) (c : Int) (hc : 0 ≤ c ∧ c ≤ 100000000) (k : Nat) : laws_markNodeS.l1 (k + 1) (out.set j (mkq 13 c x)) (c + 13) (j : Int) 13 = laws_markNodeS.l1 k (out.set j (mkq 14 c x)) (c + 14) (j : Int) 14 := by
  have hw : wrap64 (c + 13 + 1) = c + 14 := by unfold wrap64; omega
  simp only [laws_markNodeS.l1]
  rw [if_pos (by decide), if_pos (by omega), if_pos (by rw [List.length_set]; omega), if_pos (by decide), zya out j _ hj, Int.toNat_natCast, List.set_set, wn_13, hw]
  rfl
theorem nm_0 (out : List S54) (x : S54) (j : Nat) (hj : j < out.length) (c : Int) (hc : 0 ≤ c ∧ c ≤ 100000000) (k : Nat) : laws_markNodeS.l2 (k + 1) (out.set j (nkq 0 c x)) (c + 14) (j : Int) 0 = laws_markNodeS.l2 k (out.set j (nkq 1 c x)) (c + 15) (j : Int) 1 := by
  have hw : wrap64 (c + 14 + 1) = c + 15 := by unfold wrap64; omega
  simp only [laws_markNodeS.l2]
  rw [if_pos (by decide), if_pos (by omega), if_pos (by rw [List.length_set]; omega), if_pos (by decide), zya out j _ hj, Int.toNat_natCast, List.set_set, wn_0, hw]
  rfl
theorem nm_1 (out : List S54) (x : S54) (j : Nat) (hj : j < out.length) (c : Int) (hc : 0 ≤ c ∧ c ≤ 100000000) (k : Nat) : laws_markNodeS.l2 (k + 1) (out.set j (nkq 1 c x)) (c + 15) (j : Int) 1 = laws_markNodeS.l2 k (out.set j (nkq 2 c x)) (c + 16) (j : Int) 2 := by
  have hw : wrap64 (c + 15 + 1) = c + 16 := by unfold wrap64; omega
  simp only [laws_markNodeS.l2]
  rw [if_pos (by decide), if_pos (by omega), if_pos (by rw [List.length_set]; omega), if_pos (by decide), zya out j _ hj, Int.toNat_natCast, List.set_set, wn_1, hw]
  rfl
theorem nm_2 (out : List S54) (x : S54) (j : Nat) (hj : j < out.length) (c : Int) (hc : 0 ≤ c ∧ c ≤ 100000000) (k : Nat) : laws_markNodeS.l2 (k + 1) (out.set j (nkq 2 c x)) (c + 16) (j : Int) 2 = laws_markNodeS.l2 k (out.set j (nkq 3 c x)) (c + 17) (j : Int) 3 := by
  have hw : wrap64 (c + 16 + 1) = c + 17 := by unfold wrap64; omega
  simp only [laws_markNodeS.l2]
  rw [if_pos (by decide), if_pos (by omega), if_pos (by rw [List.length_set]; omega), if_pos (by decide), zya out j _ hj, Int.toNat_natCast, List.set_set, wn_2, hw]
  rfl
theorem zbf (out : List S54) (j : Nat) (hj : j < out.length) (hj2 : j ≤ 10000000) (c : Int) (hc : 0 ≤ c ∧ c ≤ 100000000) (k : Nat) : laws_markNodeS.l1 (k + 19) out c (j : Int) 0 = laws_markNodeS.l0 k (out.set j (mk54 c)) (c + 20) ((j + 1 : Nat) : Int) := by
  have h0 : out.set j (mkq 0 c (za out (j : Int))) = out := set_rd54 out j hj
  have e : laws_markNodeS.l1 (k + 19) out c (j : Int) 0 = laws_markNodeS.l1 (k + 19) (out.set j (mkq 0 c (za out (j : Int)))) (c + 0) (j : Int) 0 := by rw [h0, Int.add_zero]
  have wj : wrap64 ((j : Int) + 1) = ((j + 1 : Nat) : Int) := by unfold wrap64; omega
  have w18 : wrap64 (c + 17 + 1) = c + 18 := by unfold wrap64; omega
  have w19 : wrap64 (c + 18 + 1) = c + 19 := by unfold wrap64; omega
  have w20 : wrap64 (c + 19 + 1) = c + 20 := by unfold wrap64; omega
  rw [e, mm_0 out (za out (j : Int)) j hj c hc, mm_1 out (za out (j : Int)) j hj c hc, mm_2 out (za out (j : Int)) j hj c hc, mm_3 out (za out (j : Int)) j hj c hc, mm_4 out (za out (j : Int)) j hj c hc, mm_5 out (za out (j : Int)) j hj c hc, mm_6 out (za out (j : Int)) j hj c hc, mm_7 out (za out (j : Int)) j hj c hc, mm_8 out (za out (j : Int)) j hj c hc, mm_9 out (za out (j : Int)) j hj c hc, mm_10 out (za out (j : Int)) j hj c hc, mm_11 out (za out (j : Int)) j hj c hc, mm_12 out (za out (j : Int)) j hj c hc, mm_13 out (za out (j : Int)) j hj c hc]
  rw [laws_markNodeS.l1.eq_2, if_neg (by decide)]
  show laws_markNodeS.l2 (k + 4) (out.set j (nkq 0 c (mkq 14 c (za out (j : Int))))) (c + 14) (j : Int) 0 = _
  rw [nm_0 out (mkq 14 c (za out (j : Int))) j hj c hc, nm_1 out (mkq 14 c (za out (j : Int))) j hj c hc, nm_2 out (mkq 14 c (za out (j : Int))) j hj c hc]
  rw [laws_markNodeS.l2.eq_2, if_neg (by decide), if_pos (by omega), if_pos (by rw [List.length_set]; omega)]
  simp only [Option.bind_some, zya out j _ hj, Int.toNat_natCast, List.set_set, wj, w18, w19, w20]
  rfl
def mks (n : Nat) : List S54 := (List.range n).map fun i : Nat => mk54 (1 + 20 * (i : Int))
theorem zgc (n : Nat) : (mks n).length = n := by simp [mks]
theorem mks_at (n i : Nat) (h : i < n) : (mks n)[i]? = some (mk54 (1 + 20 * (i : Int))) := by simp [mks, h]
theorem mark_l0 (n : Nat) (hn : n ≤ 1048576) : ∀ (d j : Nat) (out : List S54), j + d = n → out.length = n → (∀ i, i < j → out[i]? = (mks n)[i]?) → ∀ k, 22 * d + 5 < k → laws_markNodeS.l0 k out (1 + 20 * (j : Int)) (j : Int) = some (1 + 20 * (n : Int), mks n) := by
  intro d
  induction d with
  | zero =>
    intro j out hj hl h2 k hk
    obtain ⟨k, rfl⟩ : ∃ m, k = m + 1 := ⟨k - 1, by omega⟩
    have e : out = mks n := by
      refine List.ext_getElem? fun i => ?_
      by_cases hi : i < j
      · exact h2 i hi
      · rw [List.getElem?_eq_none (by omega), List.getElem?_eq_none (by rw [zgc]; omega)]
    have ej : (j : Int) = n := by omega
    subst e
    simp only [laws_markNodeS.l0]
    rw [if_neg (by omega), ej]
  | succ d ih =>
    intro j out hj hl h2 k hk
    obtain ⟨k, rfl⟩ : ∃ m, k = m + 19 + 1 := ⟨k - 20, by omega⟩
    have hjo : j < out.length := by omega
    have ec : (1 + 20 * (j : Int)) + 20 = 1 + 20 * ((j + 1 : Nat) : Int) := by omega
    rw [laws_markNodeS.l0.eq_2, if_pos (by omega), zbf out j hjo (by omega) _ (by omega) k, ec]
    refine ih (j + 1) _ (by omega) (by rw [List.length_set]; exact hl) (fun i hi => ?_) k (by omega)
    by_cases ei : i = j
    · subst ei; rw [List.getElem?_set_self hjo, mks_at n i (by omega)]
    · rw [List.getElem?_set_ne (by omega)]; exact h2 i (by omega)
theorem mark_f (l : List S54) (hl : l.length ≤ 1048576) (k : Nat) (hk : 22 * l.length + 5 < k) : laws_markNodeS.f k l 1 = some (1 + 20 * (l.length : Int), mks l.length) :=
  mark_l0 l.length hl l.length 0 l (by omega) rfl (fun i h => absurd h (by omega)) k hk
theorem hm_0 (l : List S54) (j : Nat) (hj : j < l.length) (c : Int) (hc : 0 ≤ c ∧ c ≤ 100000000) (hx : za l (j : Int) = mk54 c) (k : Nat) : laws_heldNodeS.l1 (k + 1) l (c + 0) (j : Int) 0 = laws_heldNodeS.l1 k l (c + 1) (j : Int) 1 := by
  have hw : wrap64 (c + 0 + 1) = c + 1 := by unfold wrap64; omega
  simp only [laws_heldNodeS.l1]
  rw [if_pos (by decide), if_pos (by omega), if_pos (by omega), if_pos (by decide), hx, wn_0, hw]
  exact if_pos rfl
theorem hm_1 (l : List S54) (j : Nat) (hj : j < l.length) (c : Int) (hc : 0 ≤ c ∧ c ≤ 100000000) (hx : za l (j : Int) = mk54 c) (k : Nat) : laws_heldNodeS.l1 (k + 1) l (c + 1) (j : Int) 1 = laws_heldNodeS.l1 k l (c + 2) (j : Int) 2 := by
  have hw : wrap64 (c + 1 + 1) = c + 2 := by unfold wrap64; omega
  simp only [laws_heldNodeS.l1]
  rw [if_pos (by decide), if_pos (by omega), if_pos (by omega), if_pos (by decide), hx, wn_1, hw]
  exact if_pos rfl
theorem hm_2 (l : List S54) (j : Nat) (hj : j < l.length) (c : Int) (hc : 0 ≤ c ∧ c ≤ 100000000) (hx : za l (j : Int) = mk54 c) (k : Nat) : laws_heldNodeS.l1 (k + 1) l (c + 2) (j : Int) 2 = laws_heldNodeS.l1 k l (c + 3) (j : Int) 3 := by
  have hw : wrap64 (c + 2 + 1) = c + 3 := by unfold wrap64; omega
  simp only [laws_heldNodeS.l1]
  rw [if_pos (by decide), if_pos (by omega), if_pos (by omega), if_pos (by decide), hx, wn_2, hw]
  exact if_pos rfl
theorem hm_3 (l : List S54) (j : Nat) (hj : j < l.length) (c : Int) (hc : 0 ≤ c ∧ c ≤ 100000000) (hx : za l (j : Int) = mk54 c) (k : Nat) : laws_heldNodeS.l1 (k + 1) l (c + 3) (j : Int) 3 = laws_heldNodeS.l1 k l (c + 4) (j : Int) 4 := by
  have hw : wrap64 (c + 3 + 1) = c + 4 := by unfold wrap64; omega
  simp only [laws_heldNodeS.l1]
  rw [if_pos (by decide), if_pos (by omega), if_pos (by omega), if_pos (by decide), hx, wn_3, hw]
  exact if_pos rfl
theorem hm_4 (l : List S54) (j : Nat) (hj : j < l.length) (c : Int) (hc : 0 ≤ c ∧ c ≤ 100000000) (hx : za l (j : Int) = mk54 c) (k : Nat) : laws_heldNodeS.l1 (k + 1) l (c + 4) (j : Int) 4 = laws_heldNodeS.l1 k l (c + 5) (j : Int) 5 := by
  have hw : wrap64 (c + 4 + 1) = c + 5 := by unfold wrap64; omega
  simp only [laws_heldNodeS.l1]
  rw [if_pos (by decide), if_pos (by omega), if_pos (by omega), if_pos (by decide), hx, wn_4, hw]
  exact if_pos rfl
theorem hm_5 (l : List S54) (j : Nat) (hj : j < l.length) (c : Int) (hc : 0 ≤ c ∧ c ≤ 100000000) (hx : za l (j : Int) = mk54 c) (k : Nat) : laws_heldNodeS.l1 (k + 1) l (c + 5) (j : Int) 5 = laws_heldNodeS.l1 k l (c + 6) (j : Int) 6 := by
  have hw : wrap64 (c + 5 + 1) = c + 6 := by unfold wrap64; omega
  simp only [laws_heldNodeS.l1]
  rw [if_pos (by decide), if_pos (by omega), if_pos (by omega), if_pos (by decide), hx, wn_5, hw]
  exact if_pos rfl
theorem hm_6 (l : List S54) (j : Nat) (hj : j < l.length) (c : Int) (hc : 0 ≤ c ∧ c ≤ 100000000) (hx : za l (j : Int) = mk54 c) (k : Nat) : laws_heldNodeS.l1 (k + 1) l (c + 6) (j : Int) 6 = laws_heldNodeS.l1 k l (c + 7) (j : Int) 7 := by
  have hw : wrap64 (c + 6 + 1) = c + 7 := by unfold wrap64; omega
  simp only [laws_heldNodeS.l1]
  rw [if_pos (by decide), if_pos (by omega), if_pos (by omega), if_pos (by decide), hx, wn_6, hw]
  exact if_pos rfl
theorem hm_7 (l : List S54) (j : Nat) (hj : j < l.length) (c : Int) (hc : 0 ≤ c ∧ c ≤ 100000000) (hx : za l (j : Int) = mk54 c) (k : Nat) : laws_heldNodeS.l1 (k + 1) l (c + 7) (j : Int) 7 = laws_heldNodeS.l1 k l (c + 8) (j : Int) 8 := by
  have hw : wrap64 (c + 7 + 1) = c + 8 := by unfold wrap64; omega
  simp only [laws_heldNodeS.l1]
  rw [if_pos (by decide), if_pos (by omega), if_pos (by omega), if_pos (by decide), hx, wn_7, hw]
  exact if_pos rfl
theorem hm_8 (l : List S54) (j : Nat) (hj : j < l.length) (c : Int) (hc : 0 ≤ c ∧ c ≤ 100000000) (hx : za l (j : Int) = mk54 c) (k : Nat) : laws_heldNodeS.l1 (k + 1) l (c + 8) (j : Int) 8 = laws_heldNodeS.l1 k l (c + 9) (j : Int) 9 := by
  have hw : wrap64 (c + 8 + 1) = c + 9 := by unfold wrap64; omega
  simp only [laws_heldNodeS.l1]
  rw [if_pos (by decide), if_pos (by omega), if_pos (by omega), if_pos (by decide), hx, wn_8, hw]
  exact if_pos rfl
theorem hm_9 (l : List S54) (j : Nat) (hj : j < l.length) (c : Int) (hc : 0 ≤ c ∧ c ≤ 100000000) (hx : za l (j : Int) = mk54 c) (k : Nat) : laws_heldNodeS.l1 (k + 1) l (c + 9) (j : Int) 9 = laws_heldNodeS.l1 k l (c + 10) (j : Int) 10 := by
  have hw : wrap64 (c + 9 + 1) = c + 10 := by unfold wrap64; omega
  simp only [laws_heldNodeS.l1]
  rw [if_pos (by decide), if_pos (by omega), if_pos (by omega), if_pos (by decide), hx, wn_9, hw]
  exact if_pos rfl
theorem hm_10 (l : List S54) (j : Nat) (hj : j < l.length) (c : Int) (hc : 0 ≤ c ∧ c ≤ 100000000) (hx : za l (j : Int) = mk54 c) (k : Nat) : laws_heldNodeS.l1 (k + 1) l (c + 10) (j : Int) 10 = laws_heldNodeS.l1 k l (c + 11) (j : Int) 11 := by
  have hw : wrap64 (c + 10 + 1) = c + 11 := by unfold wrap64; omega
  simp only [laws_heldNodeS.l1]
  rw [if_pos (by decide), if_pos (by omega), if_pos (by omega), if_pos (by decide), hx, wn_10, hw]
  exact if_pos rfl
theorem hm_11 (l : List S54) (j : Nat) (hj : j < l.length) (c : Int) (hc : 0 ≤ c ∧ c ≤ 100000000) (hx : za l (j : Int) = mk54 c) (k : Nat) : laws_heldNodeS.l1 (k + 1) l (c + 11) (j : Int) 11 = laws_heldNodeS.l1 k l (c + 12) (j : Int) 12 := by
  have hw : wrap64 (c + 11 + 1) = c + 12 := by unfold wrap64; omega
  simp only [laws_heldNodeS.l1]
  rw [if_pos (by decide), if_pos (by omega), if_pos (by omega), if_pos (by decide), hx, wn_11, hw]
  exact if_pos rfl
theorem hm_12 (l : List S54) (j : Nat) (hj : j < l.length) (c : Int) (hc : 0 ≤ c ∧ c ≤ 100000000) (hx : za l (j : Int) = mk54 c) (k : Nat) : laws_heldNodeS.l1 (k + 1) l (c + 12) (j : Int) 12 = laws_heldNodeS.l1 k l (c + 13) (j : Int) 13 := by
  have hw : wrap64 (c + 12 + 1) = c + 13 := by unfold wrap64; omega
  simp only [laws_heldNodeS.l1]
  rw [if_pos (by decide), if_pos (by omega), if_pos (by omega), if_pos (by decide), hx, wn_12, hw]
  exact if_pos rfl
theorem hm_13 (l : List S54) (j : Nat) (hj : j < l.length) (c : Int) (hc : 0 ≤ c ∧ c ≤ 100000000) (hx : za l (j : Int) = mk54 c) (k : Nat) : laws_heldNodeS.l1 (k + 1) l (c + 13) (j : Int) 13 = laws_heldNodeS.l1 k l (c + 14) (j : Int) 14 := by
  have hw : wrap64 (c + 13 + 1) = c + 14 := by unfold wrap64; omega
  simp only [laws_heldNodeS.l1]
  rw [if_pos (by decide), if_pos (by omega), if_pos (by omega), if_pos (by decide), hx, wn_13, hw]
  exact if_pos rfl
theorem hn_0 (l : List S54) (j : Nat) (hj : j < l.length) (c : Int) (hc : 0 ≤ c ∧ c ≤ 100000000) (hx : za l (j : Int) = mk54 c) (k : Nat) : laws_heldNodeS.l2 (k + 1) l (c + 14) (j : Int) 0 = laws_heldNodeS.l2 k l (c + 15) (j : Int) 1 := by
  have hw : wrap64 (c + 14 + 1) = c + 15 := by unfold wrap64; omega
  simp only [laws_heldNodeS.l2]
  rw [if_pos (by decide), if_pos (by omega), if_pos (by omega), if_pos (by decide), hx, wn_0, hw]
  exact if_pos rfl
theorem hn_1 (l : List S54) (j : Nat) (hj : j < l.length) (c : Int) (hc : 0 ≤ c ∧ c ≤ 100000000) (hx : za l (j : Int) = mk54 c) (k : Nat) : laws_heldNodeS.l2 (k + 1) l (c + 15) (j : Int) 1 = laws_heldNodeS.l2 k l (c + 16) (j : Int) 2 := by
  have hw : wrap64 (c + 15 + 1) = c + 16 := by unfold wrap64; omega
  simp only [laws_heldNodeS.l2]
  rw [if_pos (by decide), if_pos (by omega), if_pos (by omega), if_pos (by decide), hx, wn_1, hw]
  exact if_pos rfl
theorem hn_2 (l : List S54) (j : Nat) (hj : j < l.length) (c : Int) (hc : 0 ≤ c ∧ c ≤ 100000000) (hx : za l (j : Int) = mk54 c) (k : Nat) : laws_heldNodeS.l2 (k + 1) l (c + 16) (j : Int) 2 = laws_heldNodeS.l2 k l (c + 17) (j : Int) 3 := by
  have hw : wrap64 (c + 16 + 1) = c + 17 := by unfold wrap64; omega
  simp only [laws_heldNodeS.l2]
  rw [if_pos (by decide), if_pos (by omega), if_pos (by omega), if_pos (by decide), hx, wn_2, hw]
  exact if_pos rfl
theorem zdf (l : List S54) (j : Nat) (hj : j < l.length) (hj2 : j ≤ 10000000) (c : Int) (hc : 0 ≤ c ∧ c ≤ 100000000) (hx : za l (j : Int) = mk54 c) (k : Nat) : laws_heldNodeS.l1 (k + 19) l c (j : Int) 0 = laws_heldNodeS.l0 k l (c + 20) ((j + 1 : Nat) : Int) := by
  have e : laws_heldNodeS.l1 (k + 19) l c (j : Int) 0 = laws_heldNodeS.l1 (k + 19) l (c + 0) (j : Int) 0 := by rw [Int.add_zero]
  have wj : wrap64 ((j : Int) + 1) = ((j + 1 : Nat) : Int) := by unfold wrap64; omega
  have w18 : wrap64 (c + 17 + 1) = c + 18 := by unfold wrap64; omega
  have w19 : wrap64 (c + 18 + 1) = c + 19 := by unfold wrap64; omega
  have w20 : wrap64 (c + 19 + 1) = c + 20 := by unfold wrap64; omega
  rw [e, hm_0 l j hj c hc hx, hm_1 l j hj c hc hx, hm_2 l j hj c hc hx, hm_3 l j hj c hc hx, hm_4 l j hj c hc hx, hm_5 l j hj c hc hx, hm_6 l j hj c hc hx, hm_7 l j hj c hc hx, hm_8 l j hj c hc hx, hm_9 l j hj c hc hx, hm_10 l j hj c hc hx, hm_11 l j hj c hc hx, hm_12 l j hj c hc hx, hm_13 l j hj c hc hx]
  rw [laws_heldNodeS.l1.eq_2, if_neg (by decide)]
  rw [hn_0 l j hj c hc hx, hn_1 l j hj c hc hx, hn_2 l j hj c hc hx]
  rw [laws_heldNodeS.l2.eq_2, if_neg (by decide), if_pos (by omega), if_pos (by omega), hx, w18, w19, w20, wj]
  show (if IntKind.i8.wrap (c + 17) = IntKind.i8.wrap (c + 17) then (if ((Int.tmod (c + 18) 3 == 0) != (Int.tmod (c + 18) 3 == 0)) = true then some (-1) else (if ((Int.tmod (c + 19) 3 == 0) != (Int.tmod (c + 19) 3 == 0)) = true then some (-1) else laws_heldNodeS.l0 k l (c + 20) ((j + 1 : Nat) : Int))) else some (-1)) = _
  rw [if_pos rfl, bne_self_eq_false, bne_self_eq_false, if_neg (by decide), if_neg (by decide)]
theorem held_l0 (n : Nat) (hn : n ≤ 1048576) : ∀ (d j : Nat), j + d = n → ∀ k, 22 * d + 5 < k → laws_heldNodeS.l0 k (mks n) (1 + 20 * (j : Int)) (j : Int) = some (1 + 20 * (n : Int)) := by
  intro d
  induction d with
  | zero =>
    intro j hj k hk
    obtain ⟨k, rfl⟩ : ∃ m, k = m + 1 := ⟨k - 1, by omega⟩
    have ej : (j : Int) = n := by omega
    simp only [laws_heldNodeS.l0]
    rw [if_neg (by rw [zgc]; omega), ej]
  | succ d ih =>
    intro j hj k hk
    obtain ⟨k, rfl⟩ : ∃ m, k = m + 19 + 1 := ⟨k - 20, by omega⟩
    have hjo : j < (mks n).length := by rw [zgc]; omega
    have hx : za (mks n) (j : Int) = mk54 (1 + 20 * (j : Int)) := by rw [zsc, List.getD_eq_getElem?_getD, mks_at n j (by omega)]; rfl
    have ec : (1 + 20 * (j : Int)) + 20 = 1 + 20 * ((j + 1 : Nat) : Int) := by omega
    rw [laws_heldNodeS.l0.eq_2, if_pos (by rw [zgc]; omega), zdf (mks n) j hjo (by omega) _ (by omega) hx k, ec]
    exact ih (j + 1) (by omega) k (by omega)
theorem held_f (n : Nat) (hn : n ≤ 1048576) (k : Nat) (hk : 22 * n + 5 < k) : laws_heldNodeS.f k (mks n) 1 = some (1 + 20 * (n : Int)) :=
  held_l0 n hn n 0 (by omega) k hk
def setC (x : S54) (c : Int) : S54 := ⟨x.f0, x.f1, ⟨IntKind.i8.wrap c, x.f2.f1⟩, x.f3⟩
def swE (i q : Int) (x : S54) : S54 := stP (stP x i (rdP x q)) q (rdP x i)
def swZ (i q : Int) (x : S54) : S54 := if x.f3 = true then (if wrap64 x.f2.f0 = i then setC (swE i q x) q else if wrap64 x.f2.f0 = q then setC (swE i q x) i else swE i q x) else swE i q x
theorem swap_l0 (plan : List S54) (hp : plan.length ≤ 400) (i q : Int) (hi : 0 ≤ i ∧ i < 14) (hq : 0 ≤ q ∧ q < 14) :
    ∀ (d j : Nat) (out : List S54), j + d = plan.length → out.length = plan.length → (∀ r : Nat, j ≤ r → za out (r : Int) = za plan (r : Int)) →
      ∃ v, v.1.length ≤ 400 ∧ ∀ k, d < k → spec_SwapInPlan.l0 k plan i q out (j : Int) = some v ∧ impl_SwapInPlan.l0 k i q out (plan.length : Int) (j : Int) = some v := by
  intro d
  induction d with
  | zero =>
    intro j out hj hl hr
    refine ⟨(out, 0), by simpa [hl] using hp, fun k hk => ?_⟩
    obtain ⟨k, rfl⟩ : ∃ m, k = m + 1 := ⟨k - 1, by omega⟩
    rw [spec_SwapInPlan.l0.eq_2, impl_SwapInPlan.l0.eq_2, if_neg (by omega), if_neg (by omega)]
    exact ⟨rfl, rfl⟩
  | succ d ih =>
    intro j out hj hl hr
    have hx := hr j (Nat.le_refl _)
    have hjo : j < out.length := by omega
    have wj : wrap64 ((j : Int) + 1) = ((j + 1 : Nat) : Int) := by unfold wrap64; omega
    have hs : ∀ e, za (out.set j e) (j : Int) = e := fun e => zya out j e hjo
    obtain ⟨v, hv, h⟩ := ih (j + 1) (out.set j (swZ i q (za plan (j : Int)))) (by omega) (by rw [List.length_set]; exact hl) (fun r h1 => by
      rw [← hr r (by omega)]
      generalize swZ i q (za plan (j : Int)) = e
      rw [zsc, zsc, List.getD_eq_getElem?_getD, List.getD_eq_getElem?_getD, List.getElem?_set_ne (by omega)])
    refine ⟨v, hv, fun k hk => ?_⟩
    obtain ⟨k, rfl⟩ : ∃ m, k = m + 1 := ⟨k - 1, by omega⟩
    have h' := h k (by omega)
    rw [spec_SwapInPlan.l0.eq_2, impl_SwapInPlan.l0.eq_2]
    rw [if_pos (show (j : Int) < (out.length : Int) by omega), if_pos (show (0 : Int) ≤ j by omega), if_pos (show (j : Int) < (plan.length : Int) by omega), if_pos hq.1, if_pos hq.2, if_pos hi.1, if_pos hi.2]
    rw [if_pos (show (j : Int) < (out.length : Int) by omega), if_pos (show (j : Int) < (plan.length : Int) by omega), if_pos (show (0 : Int) ≤ j by omega), if_pos hq.1, if_pos hq.2, if_pos hi.1, if_pos hi.2]
    simp only [Option.bind_some, Int.toNat_natCast, List.set_set, hs, hx, wj]
    generalize hX : za plan (j : Int) = x at h' ⊢
    have e1 : (stP (stP x i (rdP x q)) q (rdP x i)).f3 = x.f3 := rfl
    by_cases a : x.f3 = true
    · by_cases b : wrap64 x.f2.f0 = i
      · have e : swZ i q x = setC (swE i q x) q := by unfold swZ; rw [if_pos a, if_pos b]
        rw [e] at h'
        rw [if_pos (show (stP (stP x i (rdP x q)) q (rdP x i)).f3 = true from a), if_pos b, if_pos (show (stP (stP x i (rdP x q)) q (rdP x i)).f3 = true from a), if_pos (show wrap64 (stP (stP x i (rdP x q)) q (rdP x i)).f2.f0 = i from b)]
        exact h'
      · by_cases b' : wrap64 x.f2.f0 = q
        · have e : swZ i q x = setC (swE i q x) i := by unfold swZ; rw [if_pos a, if_neg b, if_pos b']
          rw [e] at h'
          rw [if_pos (show (stP (stP x i (rdP x q)) q (rdP x i)).f3 = true from a), if_neg b, if_pos b', if_pos (show (stP (stP x i (rdP x q)) q (rdP x i)).f3 = true from a), if_neg (show ¬ wrap64 (stP (stP x i (rdP x q)) q (rdP x i)).f2.f0 = i from b), if_pos (show wrap64 (stP (stP x i (rdP x q)) q (rdP x i)).f2.f0 = q from b')]
          exact h'
        · have e : swZ i q x = swE i q x := by unfold swZ; rw [if_pos a, if_neg b, if_neg b']
          rw [e] at h'
          rw [if_pos (show (stP (stP x i (rdP x q)) q (rdP x i)).f3 = true from a), if_neg b, if_neg b', if_pos (show (stP (stP x i (rdP x q)) q (rdP x i)).f3 = true from a), if_neg (show ¬ wrap64 (stP (stP x i (rdP x q)) q (rdP x i)).f2.f0 = i from b), if_neg (show ¬ wrap64 (stP (stP x i (rdP x q)) q (rdP x i)).f2.f0 = q from b')]
          exact h'
    · have e : swZ i q x = swE i q x := by unfold swZ; rw [if_neg a]
      rw [e] at h'
      rw [if_neg (show ¬ (stP (stP x i (rdP x q)) q (rdP x i)).f3 = true from a), if_neg (show ¬ (stP (stP x i (rdP x q)) q (rdP x i)).f3 = true from a)]
      exact h'
theorem swap_f (plan : List S54) (hw : ∀ x ∈ plan, zxc x) (hlen : plan.length ≤ 1048576) (c kd : Int) (n g : Bool) (hc : -128 ≤ c ∧ c ≤ 127) (hk : -128 ≤ kd ∧ kd ≤ 127) (i q : Int) :
    ∃ v, v.1.length ≤ 400 ∧ ∀ k, 9000 < k → spec_SwapInPlan.f k c kd n g plan i q = some v ∧ impl_SwapInPlan.f k c kd n g plan i q = some v := by
  obtain ⟨v, hv, hg⟩ := plan_f plan hw hlen c kd n g hc hk
  cases v with
  | false =>
    refine ⟨([], 1), by simp, fun k hk => ?_⟩
    unfold spec_SwapInPlan.f impl_SwapInPlan.f
    rw [(hv k (by omega)).1, (hv k (by omega)).2]
    exact ⟨rfl, rfl⟩
  | true =>
    obtain ⟨c1, c2, l1, l2, gn⟩ := hg rfl
    have wc : wrap64 (wrap64 c - 1) = c - 1 := by unfold wrap64; omega
    by_cases a : 0 ≤ i ∧ i ≤ c - 1
    · by_cases b : 0 ≤ q ∧ q ≤ c - 1
      · obtain ⟨v, hv1, hv2⟩ := swap_l0 plan l2 i q (by omega) (by omega) plan.length 0 plan (by omega) rfl (fun _ _ => rfl)
        refine ⟨v, hv1, fun k hk => ?_⟩
        obtain ⟨k, rfl⟩ : ∃ m, k = m + 1 := ⟨k - 1, by omega⟩
        unfold spec_SwapInPlan.f impl_SwapInPlan.f impl_Node_36.f
        rw [(hv (k + 1) (by omega)).1, (hv (k + 1) (by omega)).2]
        simp only [Option.bind_some, if_true, spec_l00In.f, impl_within.f, wc, spec_SwapInPlan.j0, List.nil_append, List.length_nil, Nat.zero_add]
        rw [if_pos (show i ≥ 0 from a.1), decide_eq_true a.2, if_pos (show q ≥ 0 from b.1), decide_eq_true b.2]
        simp only [Option.bind_some, if_true, Bool.not_true, Bool.false_eq_true, if_false]
        rw [if_pos (by omega), if_pos (by omega)]
        exact ⟨(hv2 k (by omega)).1, (hv2 (k + 1) (by omega)).2⟩
      · refine ⟨([], 2), by simp, fun k hk => ?_⟩
        obtain ⟨k, rfl⟩ : ∃ m, k = m + 1 := ⟨k - 1, by omega⟩
        have e1 : spec_l00In.f q 0 (c - 1) = some false := by
          unfold spec_l00In.f
          by_cases h0 : q ≥ 0
          · rw [if_pos h0, decide_eq_false (by omega)]
          · rw [if_neg h0]
        have e2 : impl_within.f q 0 (c - 1) = some false := by
          unfold impl_within.f
          by_cases h0 : 0 ≤ q
          · rw [if_pos h0, decide_eq_false (by omega)]
          · rw [if_neg h0]
        have e3 : spec_l00In.f i 0 (c - 1) = some true := by
          unfold spec_l00In.f
          rw [if_pos (show i ≥ 0 from a.1), decide_eq_true a.2]
        have e4 : impl_within.f i 0 (c - 1) = some true := by
          unfold impl_within.f
          rw [if_pos a.1, decide_eq_true a.2]
        unfold spec_SwapInPlan.f impl_SwapInPlan.f
        rw [(hv (k + 1) (by omega)).1, (hv (k + 1) (by omega)).2]
        simp only [Option.bind_some, if_true, wc, e1, e2, e3, e4, spec_SwapInPlan.j0, Bool.not_false, Bool.false_eq_true, if_false]
        exact ⟨trivial, trivial⟩
    · refine ⟨([], 2), by simp, fun k hk => ?_⟩
      obtain ⟨k, rfl⟩ : ∃ m, k = m + 1 := ⟨k - 1, by omega⟩
      have e1 : spec_l00In.f i 0 (c - 1) = some false := by
        unfold spec_l00In.f
        by_cases h0 : i ≥ 0
        · rw [if_pos h0, decide_eq_false (by omega)]
        · rw [if_neg h0]
      have e2 : impl_within.f i 0 (c - 1) = some false := by
        unfold impl_within.f
        by_cases h0 : 0 ≤ i
        · rw [if_pos h0, decide_eq_false (by omega)]
        · rw [if_neg h0]
      unfold spec_SwapInPlan.f impl_SwapInPlan.f
      rw [(hv (k + 1) (by omega)).1, (hv (k + 1) (by omega)).2]
      simp only [Option.bind_some, if_true, wc, e1, e2, spec_SwapInPlan.j0, Bool.false_eq_true, if_false]
      exact ⟨trivial, trivial⟩
end Go.Proofs.Ytmmonhpjjjdnjaa.V
