/- Plans: marked and held. -/
import Derived.Test.YtmfbcklaomigaaaLTBase
import Derived.Test.YtmfbcklaomigaaaMx26
import Derived.Test.YtmfbcklaomigaaaMx31
namespace Go.Proofs.Ytmfbcklaomigaaa.M
open Go.RowKit Go.Proofs.YtmfbcklaomigaaaW.PrintWords Go.Proofs.YtmfbcklaomigaaaW.PrintLast Go.Proofs.YtmfbcklaomigaaaW.PrintMore
set_option linter.unusedVariables false
set_option linter.unusedSimpArgs false
theorem zma (out : List S102) (j : Nat) (e : S102) (hj : j < out.length) : zh (out.set j e) (j : Int) = e := by
  rw [zje, List.getD_eq_getElem?_getD, List.getElem?_set_self hj]; rfl
theorem set_rd102 (out : List S102) (j : Nat) (hj : j < out.length) : out.set j (zh out (j : Int)) = out := by
  rw [zje, List.getD_eq_getElem?_getD, List.getElem?_eq_getElem hj]
  exact List.set_getElem_self hj
def zmb (c : Int) : S102 := ⟨⟨IntKind.i8.wrap (c + 0), IntKind.i8.wrap (c + 1), IntKind.i8.wrap (c + 2), IntKind.i8.wrap (c + 3), IntKind.i8.wrap (c + 4), IntKind.i8.wrap (c + 5), IntKind.i8.wrap (c + 6), IntKind.i8.wrap (c + 7), IntKind.i8.wrap (c + 8), IntKind.i8.wrap (c + 9), IntKind.i8.wrap (c + 10), IntKind.i8.wrap (c + 11), IntKind.i8.wrap (c + 12), IntKind.i8.wrap (c + 13)⟩, ⟨IntKind.i16.wrap (c + 14), IntKind.i16.wrap (c + 15), IntKind.i16.wrap (c + 16)⟩, ⟨IntKind.i8.wrap (c + 17), (Int.tmod (c + 18) 3) == 0⟩, (Int.tmod (c + 19) 3) == 0⟩
def mkq (q : Nat) (c : Int) (x : S102) : S102 := ⟨⟨(if 0 < q then IntKind.i8.wrap (c + 0) else x.f0.f0), (if 1 < q then IntKind.i8.wrap (c + 1) else x.f0.f1), (if 2 < q then IntKind.i8.wrap (c + 2) else x.f0.f2), (if 3 < q then IntKind.i8.wrap (c + 3) else x.f0.f3), (if 4 < q then IntKind.i8.wrap (c + 4) else x.f0.f4), (if 5 < q then IntKind.i8.wrap (c + 5) else x.f0.f5), (if 6 < q then IntKind.i8.wrap (c + 6) else x.f0.f6), (if 7 < q then IntKind.i8.wrap (c + 7) else x.f0.f7), (if 8 < q then IntKind.i8.wrap (c + 8) else x.f0.f8), (if 9 < q then IntKind.i8.wrap (c + 9) else x.f0.f9), (if 10 < q then IntKind.i8.wrap (c + 10) else x.f0.f10), (if 11 < q then IntKind.i8.wrap (c + 11) else x.f0.f11), (if 12 < q then IntKind.i8.wrap (c + 12) else x.f0.f12), (if 13 < q then IntKind.i8.wrap (c + 13) else x.f0.f13)⟩, x.f1, x.f2, x.f3⟩
def nkq (q : Nat) (c : Int) (x : S102) : S102 := ⟨x.f0, ⟨(if 0 < q then IntKind.i16.wrap (c + 14) else x.f1.f0), (if 1 < q then IntKind.i16.wrap (c + 15) else x.f1.f1), (if 2 < q then IntKind.i16.wrap (c + 16) else x.f1.f2)⟩, x.f2, x.f3⟩
theorem mm_0 (out : List S102) (x : S102) (j : Nat) (hj : j < out.length) (c : Int) (hc : 0 ≤ c ∧ c ≤ 100000000) (k : Nat) : laws_markNodeS.l1 (k + 1) (out.set j (mkq 0 c x)) (c + 0) (j : Int) 0 = laws_markNodeS.l1 k (out.set j (mkq 1 c x)) (c + 1) (j : Int) 1 := by
  have hw : wrap64 (c + 0 + 1) = c + 1 := by unfold wrap64; omega
  simp only [laws_markNodeS.l1]
  rw [if_pos (by decide), if_pos (by omega), if_pos (by rw [List.length_set]; omega), if_pos (by decide), zma out j _ hj, Int.toNat_natCast, List.set_set, wn_0, hw]
  rfl
theorem mm_1 (out : List S102) (x : S102) (j : Nat) (hj : j < out.length) (c : Int) (hc : 0 ≤ c ∧ c ≤ 100000000) (k : Nat) : laws_markNodeS.l1 (k + 1) (out.set j (mkq 1 c x)) (c + 1) (j : Int) 1 = laws_markNodeS.l1 k (out.set j (mkq 2 c x)) (c + 2) (j : Int) 2 := by
  have hw : wrap64 (c + 1 + 1) = c + 2 := by unfold wrap64; omega
  simp only [laws_markNodeS.l1]
  rw [if_pos (by decide), if_pos (by omega), if_pos (by rw [List.length_set]; omega), if_pos (by decide), zma out j _ hj, Int.toNat_natCast, List.set_set, wn_1, hw]
  rfl
theorem mm_2 (out : List S102) (x : S102) (j : Nat) (hj : j < out.length) (c : Int) (hc : 0 ≤ c ∧ c ≤ 100000000) (k : Nat) : laws_markNodeS.l1 (k + 1) (out.set j (mkq 2 c x)) (c + 2) (j : Int) 2 = laws_markNodeS.l1 k (out.set j (mkq 3 c x)) (c + 3) (j : Int) 3 := by
  have hw : wrap64 (c + 2 + 1) = c + 3 := by unfold wrap64; omega
  simp only [laws_markNodeS.l1]
  rw [if_pos (by decide), if_pos (by omega), if_pos (by rw [List.length_set]; omega), if_pos (by decide), zma out j _ hj, Int.toNat_natCast, List.set_set, wn_2, hw]
  rfl
theorem mm_3 (out : List S102) (x : S102) (j : Nat) (hj : j < out.length) (c : Int) (hc : 0 ≤ c ∧ c ≤ 100000000) (k : Nat) : laws_markNodeS.l1 (k + 1) (out.set j (mkq 3 c x)) (c + 3) (j : Int) 3 = laws_markNodeS.l1 k (out.set j (mkq 4 c x)) (c + 4) (j : Int) 4 := by
  have hw : wrap64 (c + 3 + 1) = c + 4 := by unfold wrap64; omega
  simp only [laws_markNodeS.l1]
  rw [if_pos (by decide), if_pos (by omega), if_pos (by rw [List.length_set]; omega), if_pos (by decide), zma out j _ hj, Int.toNat_natCast, List.set_set, wn_3, hw]
  rfl
theorem mm_4 (out : List S102) (x : S102) (j : Nat) (hj : j < out.length) (c : Int) (hc : 0 ≤ c ∧ c ≤ 100000000) (k : Nat) : laws_markNodeS.l1 (k + 1) (out.set j (mkq 4 c x)) (c + 4) (j : Int) 4 = laws_markNodeS.l1 k (out.set j (mkq 5 c x)) (c + 5) (j : Int) 5 := by
  have hw : wrap64 (c + 4 + 1) = c + 5 := by unfold wrap64; omega
  simp only [laws_markNodeS.l1]
  rw [if_pos (by decide), if_pos (by omega), if_pos (by rw [List.length_set]; omega), if_pos (by decide), zma out j _ hj, Int.toNat_natCast, List.set_set, wn_4, hw]
  rfl
theorem mm_5 (out : List S102) (x : S102) (j : Nat) (hj : j < out.length) (c : Int) (hc : 0 ≤ c ∧ c ≤ 100000000) (k : Nat) : laws_markNodeS.l1 (k + 1) (out.set j (mkq 5 c x)) (c + 5) (j : Int) 5 = laws_markNodeS.l1 k (out.set j (mkq 6 c x)) (c + 6) (j : Int) 6 := by
  have hw : wrap64 (c + 5 + 1) = c + 6 := by unfold wrap64; omega
  simp only [laws_markNodeS.l1]
  rw [if_pos (by decide), if_pos (by omega), if_pos (by rw [List.length_set]; omega), if_pos (by decide), zma out j _ hj, Int.toNat_natCast, List.set_set, wn_5, hw]
  rfl
theorem mm_6 (out : List S102) (x : S102) (j : Nat) (hj : j < out.length) (c : Int) (hc : 0 ≤ c ∧ c ≤ 100000000) (k : Nat) : laws_markNodeS.l1 (k + 1) (out.set j (mkq 6 c x)) (c + 6) (j : Int) 6 = laws_markNodeS.l1 k (out.set j (mkq 7 c x)) (c + 7) (j : Int) 7 := by
  have hw : wrap64 (c + 6 + 1) = c + 7 := by unfold wrap64; omega
  simp only [laws_markNodeS.l1]
  rw [if_pos (by decide), if_pos (by omega), if_pos (by rw [List.length_set]; omega), if_pos (by decide), zma out j _ hj, Int.toNat_natCast, List.set_set, wn_6, hw]
  rfl
theorem mm_7 (out : List S102) (x : S102) (j : Nat) (hj : j < out.length) (c : Int) (hc : 0 ≤ c ∧ c ≤ 100000000) (k : Nat) : laws_markNodeS.l1 (k + 1) (out.set j (mkq 7 c x)) (c + 7) (j : Int) 7 = laws_markNodeS.l1 k (out.set j (mkq 8 c x)) (c + 8) (j : Int) 8 := by
  have hw : wrap64 (c + 7 + 1) = c + 8 := by unfold wrap64; omega
  simp only [laws_markNodeS.l1]
  rw [if_pos (by decide), if_pos (by omega), if_pos (by rw [List.length_set]; omega), if_pos (by decide), zma out j _ hj, Int.toNat_natCast, List.set_set, wn_7, hw]
  rfl
theorem mm_8 (out : List S102) (x : S102) (j : Nat) (hj : j < out.length) (c : Int) (hc : 0 ≤ c ∧ c ≤ 100000000) (k : Nat) : laws_markNodeS.l1 (k + 1) (out.set j (mkq 8 c x)) (c + 8) (j : Int) 8 = laws_markNodeS.l1 k (out.set j (mkq 9 c x)) (c + 9) (j : Int) 9 := by
  have hw : wrap64 (c + 8 + 1) = c + 9 := by unfold wrap64; omega
  simp only [laws_markNodeS.l1]
  rw [if_pos (by decide), if_pos (by omega), if_pos (by rw [List.length_set]; omega), if_pos (by decide), zma out j _ hj, Int.toNat_natCast, List.set_set, wn_8, hw]
  rfl
theorem mm_9 (out : List S102) (x : S102) (j : Nat) (hj : j < out.length) (c : Int) (hc : 0 ≤ c ∧ c ≤ 100000000) (k : Nat) : laws_markNodeS.l1 (k + 1) (out.set j (mkq 9 c x)) (c + 9) (j : Int) 9 = laws_markNodeS.l1 k (out.set j (mkq 10 c x)) (c + 10) (j : Int) 10 := by
  have hw : wrap64 (c + 9 + 1) = c + 10 := by unfold wrap64; omega
  simp only [laws_markNodeS.l1]
  rw [if_pos (by decide), if_pos (by omega), if_pos (by rw [List.length_set]; omega), if_pos (by decide), zma out j _ hj, Int.toNat_natCast, List.set_set, wn_9, hw]
  rfl
theorem mm_10 (out : List S102) (x : S102) (j : Nat) (hj : j < out.length) (c : Int) (hc : 0 ≤ c ∧ c ≤ 100000000) (k : Nat) : laws_markNodeS.l1 (k + 1) (out.set j (mkq 10 c x)) (c + 10) (j : Int) 10 = laws_markNodeS.l1 k (out.set j (mkq 11 c x)) (c + 11) (j : Int) 11 := by
  have hw : wrap64 (c + 10 + 1) = c + 11 := by unfold wrap64; omega
  simp only [laws_markNodeS.l1]
  rw [if_pos (by decide), if_pos (by omega), if_pos (by rw [List.length_set]; omega), if_pos (by decide), zma out j _ hj, Int.toNat_natCast, List.set_set, wn_10, hw]
  rfl
theorem mm_11 (out : List S102) (x : S102) (j : Nat) (hj : j < out.length) (c : Int) (hc : 0 ≤ c ∧ c ≤ 100000000) (k : Nat) : laws_markNodeS.l1 (k + 1) (out.set j (mkq 11 c x)) (c + 11) (j : Int) 11 = laws_markNodeS.l1 k (out.set j (mkq 12 c x)) (c + 12) (j : Int) 12 := by
  have hw : wrap64 (c + 11 + 1) = c + 12 := by unfold wrap64; omega
  simp only [laws_markNodeS.l1]
  rw [if_pos (by decide), if_pos (by omega), if_pos (by rw [List.length_set]; omega), if_pos (by decide), zma out j _ hj, Int.toNat_natCast, List.set_set, wn_11, hw]
  rfl
theorem mm_12 (out : List S102) (x : S102) (j : Nat) (hj : j < out.length) (c : Int) (hc : 0 ≤ c ∧ c ≤ 100000000) (k : Nat) : laws_markNodeS.l1 (k + 1) (out.set j (mkq 12 c x)) (c + 12) (j : Int) 12 = laws_markNodeS.l1 k (out.set j (mkq 13 c x)) (c + 13) (j : Int) 13 := by
  have hw : wrap64 (c + 12 + 1) = c + 13 := by unfold wrap64; omega
  simp only [laws_markNodeS.l1]
  rw [if_pos (by decide), if_pos (by omega), if_pos (by rw [List.length_set]; omega), if_pos (by decide), zma out j _ hj, Int.toNat_natCast, List.set_set, wn_12, hw]
  rfl
theorem mm_13 (out : List S102) (x : S102) (j : Nat) (hj : j < out.length) (c : Int) (hc : 0 ≤ c ∧ c ≤ 100000000) (k : Nat) : laws_markNodeS.l1 (k + 1) (out.set j (mkq 13 c x)) (c + 13) (j : Int) 13 = laws_markNodeS.l1 k (out.set j (mkq 14 c x)) (c + 14) (j : Int) 14 := by
  have hw : wrap64 (c + 13 + 1) = c + 14 := by unfold wrap64; omega
  simp only [laws_markNodeS.l1]
  rw [if_pos (by decide), if_pos (by omega), if_pos (by rw [List.length_set]; omega), if_pos (by decide), zma out j _ hj, Int.toNat_natCast, List.set_set, wn_13, hw]
  rfl
theorem nm_0 (out : List S102) (x : S102) (j : Nat) (hj : j < out.length) (c : Int) (hc : 0 ≤ c ∧ c ≤ 100000000) (k : Nat) : laws_markNodeS.l2 (k + 1) (out.set j (nkq 0 c x)) (c + 14) (j : Int) 0 = laws_markNodeS.l2 k (out.set j (nkq 1 c x)) (c + 15) (j : Int) 1 := by
  have hw : wrap64 (c + 14 + 1) = c + 15 := by unfold wrap64; omega
  simp only [laws_markNodeS.l2]
  rw [if_pos (by decide), if_pos (by omega), if_pos (by rw [List.length_set]; omega), if_pos (by decide), zma out j _ hj, Int.toNat_natCast, List.set_set, wn_0, hw]
  rfl
theorem nm_1 (out : List S102) (x : S102) (j : Nat) (hj : j < out.length) (c : Int) (hc : 0 ≤ c ∧ c ≤ 100000000) (k : Nat) : laws_markNodeS.l2 (k + 1) (out.set j (nkq 1 c x)) (c + 15) (j : Int) 1 = laws_markNodeS.l2 k (out.set j (nkq 2 c x)) (c + 16) (j : Int) 2 := by
  have hw : wrap64 (c + 15 + 1) = c + 16 := by unfold wrap64; omega
  simp only [laws_markNodeS.l2]
  rw [if_pos (by decide), if_pos (by omega), if_pos (by rw [List.length_set]; omega), if_pos (by decide), zma out j _ hj, Int.toNat_natCast, List.set_set, wn_1, hw]
  rfl
theorem nm_2 (out : List S102) (x : S102) (j : Nat) (hj : j < out.length) (c : Int) (hc : 0 ≤ c ∧ c ≤ 100000000) (k : Nat) : laws_markNodeS.l2 (k + 1) (out.set j (nkq 2 c x)) (c + 16) (j : Int) 2 = laws_markNodeS.l2 k (out.set j (nkq 3 c x)) (c + 17) (j : Int) 3 := by
  have hw : wrap64 (c + 16 + 1) = c + 17 := by unfold wrap64; omega
  simp only [laws_markNodeS.l2]
  rw [if_pos (by decide), if_pos (by omega), if_pos (by rw [List.length_set]; omega), if_pos (by decide), zma out j _ hj, Int.toNat_natCast, List.set_set, wn_2, hw]
  rfl
theorem mark_round (out : List S102) (j : Nat) (hj : j < out.length) (hj2 : j ≤ 10000000) (c : Int) (hc : 0 ≤ c ∧ c ≤ 100000000) (k : Nat) : laws_markNodeS.l1 (k + 19) out c (j : Int) 0 = laws_markNodeS.l0 k (out.set j (zmb c)) (c + 20) ((j + 1 : Nat) : Int) := by
  have h0 : out.set j (mkq 0 c (zh out (j : Int))) = out := set_rd102 out j hj
  have e : laws_markNodeS.l1 (k + 19) out c (j : Int) 0 = laws_markNodeS.l1 (k + 19) (out.set j (mkq 0 c (zh out (j : Int)))) (c + 0) (j : Int) 0 := by rw [h0, Int.add_zero]
  have wj : wrap64 ((j : Int) + 1) = ((j + 1 : Nat) : Int) := by unfold wrap64; omega
  have w18 : wrap64 (c + 17 + 1) = c + 18 := by unfold wrap64; omega
  have w19 : wrap64 (c + 18 + 1) = c + 19 := by unfold wrap64; omega
  have w20 : wrap64 (c + 19 + 1) = c + 20 := by unfold wrap64; omega
  rw [e, mm_0 out (zh out (j : Int)) j hj c hc, mm_1 out (zh out (j : Int)) j hj c hc, mm_2 out (zh out (j : Int)) j hj c hc, mm_3 out (zh out (j : Int)) j hj c hc, mm_4 out (zh out (j : Int)) j hj c hc, mm_5 out (zh out (j : Int)) j hj c hc, mm_6 out (zh out (j : Int)) j hj c hc, mm_7 out (zh out (j : Int)) j hj c hc, mm_8 out (zh out (j : Int)) j hj c hc, mm_9 out (zh out (j : Int)) j hj c hc, mm_10 out (zh out (j : Int)) j hj c hc, mm_11 out (zh out (j : Int)) j hj c hc, mm_12 out (zh out (j : Int)) j hj c hc, mm_13 out (zh out (j : Int)) j hj c hc]
  rw [laws_markNodeS.l1.eq_2, if_neg (by decide)]
  show laws_markNodeS.l2 (k + 4) (out.set j (nkq 0 c (mkq 14 c (zh out (j : Int))))) (c + 14) (j : Int) 0 = _
  rw [nm_0 out (mkq 14 c (zh out (j : Int))) j hj c hc, nm_1 out (mkq 14 c (zh out (j : Int))) j hj c hc, nm_2 out (mkq 14 c (zh out (j : Int))) j hj c hc]
  rw [laws_markNodeS.l2.eq_2, if_neg (by decide), if_pos (by omega), if_pos (by rw [List.length_set]; omega)]
  simp only [Option.bind_some, zma out j _ hj, Int.toNat_natCast, List.set_set, wj, w18, w19, w20]
  rfl
def mks (n : Nat) : List S102 := (List.range n).map fun i : Nat => zmb (1 + 20 * (i : Int))
theorem zec (n : Nat) : (mks n).length = n := by simp [mks]
theorem mks_at (n i : Nat) (h : i < n) : (mks n)[i]? = some (zmb (1 + 20 * (i : Int))) := by simp [mks, h]
theorem mark_l0 (n : Nat) (hn : n ≤ 1048576) : ∀ (d j : Nat) (out : List S102), j + d = n → out.length = n → (∀ i, i < j → out[i]? = (mks n)[i]?) → ∀ k, 22 * d + 5 < k → laws_markNodeS.l0 k out (1 + 20 * (j : Int)) (j : Int) = some (1 + 20 * (n : Int), mks n) := by
  intro d
  induction d with
  | zero =>
    intro j out hj hl h2 k hk
    obtain ⟨k, rfl⟩ : ∃ m, k = m + 1 := ⟨k - 1, by omega⟩
    have e : out = mks n := by
      refine List.ext_getElem? fun i => ?_
      by_cases hi : i < j
      · exact h2 i hi
      · rw [List.getElem?_eq_none (by omega), List.getElem?_eq_none (by rw [zec]; omega)]
    have ej : (j : Int) = n := by omega
    subst e
    simp only [laws_markNodeS.l0]
    rw [if_neg (by omega), ej]
  | succ d ih =>
    intro j out hj hl h2 k hk
    obtain ⟨k, rfl⟩ : ∃ m, k = m + 19 + 1 := ⟨k - 20, by omega⟩
    have hjo : j < out.length := by omega
    have ec : (1 + 20 * (j : Int)) + 20 = 1 + 20 * ((j + 1 : Nat) : Int) := by omega
    rw [laws_markNodeS.l0.eq_2, if_pos (by omega), mark_round out j hjo (by omega) _ (by omega) k, ec]
    refine ih (j + 1) _ (by omega) (by rw [List.length_set]; exact hl) (fun i hi => ?_) k (by omega)
    by_cases ei : i = j
    · subst ei; rw [List.getElem?_set_self hjo, mks_at n i (by omega)]
    · rw [List.getElem?_set_ne (by omega)]; exact h2 i (by omega)
theorem mark_f (l : List S102) (hl : l.length ≤ 1048576) (k : Nat) (hk : 22 * l.length + 5 < k) : laws_markNodeS.f k l 1 = some (1 + 20 * (l.length : Int), mks l.length) :=
  mark_l0 l.length hl l.length 0 l (by omega) rfl (fun i h => absurd h (by omega)) k hk
theorem hm_0 (l : List S102) (j : Nat) (hj : j < l.length) (c : Int) (hc : 0 ≤ c ∧ c ≤ 100000000) (hx : zh l (j : Int) = zmb c) (k : Nat) : laws_heldNodeS.l1 (k + 1) l (c + 0) (j : Int) 0 = laws_heldNodeS.l1 k l (c + 1) (j : Int) 1 := by
  have hw : wrap64 (c + 0 + 1) = c + 1 := by unfold wrap64; omega
  simp only [laws_heldNodeS.l1]
  rw [if_pos (by decide), if_pos (by omega), if_pos (by omega), if_pos (by decide), hx, wn_0, hw]
  exact if_pos rfl
theorem hm_1 (l : List S102) (j : Nat) (hj : j < l.length) (c : Int) (hc : 0 ≤ c ∧ c ≤ 100000000) (hx : zh l (j : Int) = zmb c) (k : Nat) : laws_heldNodeS.l1 (k + 1) l (c + 1) (j : Int) 1 = laws_heldNodeS.l1 k l (c + 2) (j : Int) 2 := by
  have hw : wrap64 (c + 1 + 1) = c + 2 := by unfold wrap64; omega
  simp only [laws_heldNodeS.l1]
  rw [if_pos (by decide), if_pos (by omega), if_pos (by omega), if_pos (by decide), hx, wn_1, hw]
  exact if_pos rfl
theorem hm_2 (l : List S102) (j : Nat) (hj : j < l.length) (c : Int) (hc : 0 ≤ c ∧ c ≤ 100000000) (hx : zh l (j : Int) = zmb c) (k : Nat) : laws_heldNodeS.l1 (k + 1) l (c + 2) (j : Int) 2 = laws_heldNodeS.l1 k l (c + 3) (j : Int) 3 := by
  have hw : wrap64 (c + 2 + 1) = c + 3 := by unfold wrap64; omega
  simp only [laws_heldNodeS.l1]
  rw [if_pos (by decide), if_pos (by omega), if_pos (by omega), if_pos (by decide), hx, wn_2, hw]
  exact if_pos rfl
theorem hm_3 (l : List S102) (j : Nat) (hj : j < l.length) (c : Int) (hc : 0 ≤ c ∧ c ≤ 100000000) (hx : zh l (j : Int) = zmb c) (k : Nat) : laws_heldNodeS.l1 (k + 1) l (c + 3) (j : Int) 3 = laws_heldNodeS.l1 k l (c + 4) (j : Int) 4 := by
  have hw : wrap64 (c + 3 + 1) = c + 4 := by unfold wrap64; omega
  simp only [laws_heldNodeS.l1]
  rw [if_pos (by decide), if_pos (by omega), if_pos (by omega), if_pos (by decide), hx, wn_3, hw]
  exact if_pos rfl
theorem hm_4 (l : List S102) (j : Nat) (hj : j < l.length) (c : Int) (hc : 0 ≤ c ∧ c ≤ 100000000) (hx : zh l (j : Int) = zmb c) (k : Nat) : laws_heldNodeS.l1 (k + 1) l (c + 4) (j : Int) 4 = laws_heldNodeS.l1 k l (c + 5) (j : Int) 5 := by
  have hw : wrap64 (c + 4 + 1) = c + 5 := by unfold wrap64; omega
  simp only [laws_heldNodeS.l1]
  rw [if_pos (by decide), if_pos (by omega), if_pos (by omega), if_pos (by decide), hx, wn_4, hw]
  exact if_pos rfl
theorem hm_5 (l : List S102) (j : Nat) (hj : j < l.length) (c : Int) (hc : 0 ≤ c ∧ c ≤ 100000000) (hx : zh l (j : Int) = zmb c) (k : Nat) : laws_heldNodeS.l1 (k + 1) l (c + 5) (j : Int) 5 = laws_heldNodeS.l1 k l (c + 6) (j : Int) 6 := by
  have hw : wrap64 (c + 5 + 1) = c + 6 := by unfold wrap64; omega
  simp only [laws_heldNodeS.l1]
  rw [if_pos (by decide), if_pos (by omega), if_pos (by omega), if_pos (by decide), hx, wn_5, hw]
  exact if_pos rfl
theorem hm_6 (l : List S102) (j : Nat) (hj : j < l.length) (c : Int) (hc : 0 ≤ c ∧ c ≤ 100000000) (hx : zh l (j : Int) = zmb c) (k : Nat) : laws_heldNodeS.l1 (k + 1) l (c + 6) (j : Int) 6 = laws_heldNodeS.l1 k l (c + 7) (j : Int) 7 := by
  have hw : wrap64 (c + 6 + 1) = c + 7 := by unfold wrap64; omega
  simp only [laws_heldNodeS.l1]
  rw [if_pos (by decide), if_pos (by omega), if_pos (by omega), if_pos (by decide), hx, wn_6, hw]
  exact if_pos rfl
theorem hm_7 (l : List S102) (j : Nat) (hj : j < l.length) (c : Int) (hc : 0 ≤ c ∧ c ≤ 100000000) (hx : zh l (j : Int) = zmb c) (k : Nat) : laws_heldNodeS.l1 (k + 1) l (c + 7) (j : Int) 7 = laws_heldNodeS.l1 k l (c + 8) (j : Int) 8 := by
  have hw : wrap64 (c + 7 + 1) = c + 8 := by unfold wrap64; omega
  simp only [laws_heldNodeS.l1]
  rw [if_pos (by decide), if_pos (by omega), if_pos (by omega), if_pos (by decide), hx, wn_7, hw]
  exact if_pos rfl
theorem hm_8 (l : List S102) (j : Nat) (hj : j < l.length) (c : Int) (hc : 0 ≤ c ∧ c ≤ 100000000) (hx : zh l (j : Int) = zmb c) (k : Nat) : laws_heldNodeS.l1 (k + 1) l (c + 8) (j : Int) 8 = laws_heldNodeS.l1 k l (c + 9) (j : Int) 9 := by
  have hw : wrap64 (c + 8 + 1) = c + 9 := by unfold wrap64; omega
  simp only [laws_heldNodeS.l1]
  rw [if_pos (by decide), if_pos (by omega), if_pos (by omega), if_pos (by decide), hx, wn_8, hw]
  exact if_pos rfl
theorem hm_9 (l : List S102) (j : Nat) (hj : j < l.length) (c : Int) (hc : 0 ≤ c ∧ c ≤ 100000000) (hx : zh l (j : Int) = zmb c) (k : Nat) : laws_heldNodeS.l1 (k + 1) l (c + 9) (j : Int) 9 = laws_heldNodeS.l1 k l (c + 10) (j : Int) 10 := by
  have hw : wrap64 (c + 9 + 1) = c + 10 := by unfold wrap64; omega
  simp only [laws_heldNodeS.l1]
  rw [if_pos (by decide), if_pos (by omega), if_pos (by omega), if_pos (by decide), hx, wn_9, hw]
  exact if_pos rfl
theorem hm_10 (l : List S102) (j : Nat) (hj : j < l.length) (c : Int) (hc : 0 ≤ c ∧ c ≤ 100000000) (hx : zh l (j : Int) = zmb c) (k : Nat) : laws_heldNodeS.l1 (k + 1) l (c + 10) (j : Int) 10 = laws_heldNodeS.l1 k l (c + 11) (j : Int) 11 := by
  have hw : wrap64 (c + 10 + 1) = c + 11 := by unfold wrap64; omega
  simp only [laws_heldNodeS.l1]
  rw [if_pos (by decide), if_pos (by omega), if_pos (by omega), if_pos (by decide), hx, wn_10, hw]
  exact if_pos rfl
theorem hm_11 (l : List S102) (j : Nat) (hj : j < l.length) (c : Int) (hc : 0 ≤ c ∧ c ≤ 100000000) (hx : zh l (j : Int) = zmb c) (k : Nat) : laws_heldNodeS.l1 (k + 1) l (c + 11) (j : Int) 11 = laws_heldNodeS.l1 k l (c + 12) (j : Int) 12 := by
  have hw : wrap64 (c + 11 + 1) = c + 12 := by unfold wrap64; omega
  simp only [laws_heldNodeS.l1]
  rw [if_pos (by decide), if_pos (by omega), if_pos (by omega), if_pos (by decide), hx, wn_11, hw]
  exact if_pos rfl
theorem hm_12 (l : List S102) (j : Nat) (hj : j < l.length) (c : Int) (hc : 0 ≤ c ∧ c ≤ 100000000) (hx : zh l (j : Int) = zmb c) (k : Nat) : laws_heldNodeS.l1 (k + 1) l (c + 12) (j : Int) 12 = laws_heldNodeS.l1 k l (c + 13) (j : Int) 13 := by
  have hw : wrap64 (c + 12 + 1) = c + 13 := by unfold wrap64; omega
  simp only [laws_heldNodeS.l1]
  rw [if_pos (by decide), if_pos (by omega), if_pos (by omega), if_pos (by decide), hx, wn_12, hw]
  exact if_pos rfl
theorem hm_13 (l : List S102) (j : Nat) (hj : j < l.length) (c : Int) (hc : 0 ≤ c ∧ c ≤ 100000000) (hx : zh l (j : Int) = zmb c) (k : Nat) : laws_heldNodeS.l1 (k + 1) l (c + 13) (j : Int) 13 = laws_heldNodeS.l1 k l (c + 14) (j : Int) 14 := by
  have hw : wrap64 (c + 13 + 1) = c + 14 := by unfold wrap64; omega
  simp only [laws_heldNodeS.l1]
  rw [if_pos (by decide), if_pos (by omega), if_pos (by omega), if_pos (by decide), hx, wn_13, hw]
  exact if_pos rfl
theorem hn_0 (l : List S102) (j : Nat) (hj : j < l.length) (c : Int) (hc : 0 ≤ c ∧ c ≤ 100000000) (hx : zh l (j : Int) = zmb c) (k : Nat) : laws_heldNodeS.l2 (k + 1) l (c + 14) (j : Int) 0 = laws_heldNodeS.l2 k l (c + 15) (j : Int) 1 := by
  have hw : wrap64 (c + 14 + 1) = c + 15 := by unfold wrap64; omega
  simp only [laws_heldNodeS.l2]
  rw [if_pos (by decide), if_pos (by omega), if_pos (by omega), if_pos (by decide), hx, wn_0, hw]
  exact if_pos rfl
theorem hn_1 (l : List S102) (j : Nat) (hj : j < l.length) (c : Int) (hc : 0 ≤ c ∧ c ≤ 100000000) (hx : zh l (j : Int) = zmb c) (k : Nat) : laws_heldNodeS.l2 (k + 1) l (c + 15) (j : Int) 1 = laws_heldNodeS.l2 k l (c + 16) (j : Int) 2 := by
  have hw : wrap64 (c + 15 + 1) = c + 16 := by unfold wrap64; omega
  simp only [laws_heldNodeS.l2]
  rw [if_pos (by decide), if_pos (by omega), if_pos (by omega), if_pos (by decide), hx, wn_1, hw]
  exact if_pos rfl
theorem hn_2 (l : List S102) (j : Nat) (hj : j < l.length) (c : Int) (hc : 0 ≤ c ∧ c ≤ 100000000) (hx : zh l (j : Int) = zmb c) (k : Nat) : laws_heldNodeS.l2 (k + 1) l (c + 16) (j : Int) 2 = laws_heldNodeS.l2 k l (c + 17) (j : Int) 3 := by
  have hw : wrap64 (c + 16 + 1) = c + 17 := by unfold wrap64; omega
  simp only [laws_heldNodeS.l2]
  rw [if_pos (by decide), if_pos (by omega), if_pos (by omega), if_pos (by decide), hx, wn_2, hw]
  exact if_pos rfl
theorem held_round (l : List S102) (j : Nat) (hj : j < l.length) (hj2 : j ≤ 10000000) (c : Int) (hc : 0 ≤ c ∧ c ≤ 100000000) (hx : zh l (j : Int) = zmb c) (k : Nat) : laws_heldNodeS.l1 (k + 19) l c (j : Int) 0 = laws_heldNodeS.l0 k l (c + 20) ((j + 1 : Nat) : Int) := by
  have e : laws_heldNodeS.l1 (k + 19) l c (j : Int) 0 = laws_heldNodeS.l1 (k + 19) l (c + 0) (j : Int) 0 := by rw [Int.add_zero]
  have wj : wrap64 ((j : Int) + 1) = ((j + 1 : Nat) : Int) := by unfold wrap64; omega
  have w18 : wrap64 (c + 17 + 1) = c + 18 := by unfold wrap64; omega
  have w19 : wrap64 (c + 18 + 1) = c + 19 := by unfold wrap64; omega
  have w20 : wrap64 (c + 19 + 1) = c + 20 := by unfold wrap64; omega
  rw [e, hm_0 l j hj c hc hx, hm_1 l j hj c hc hx, hm_2 l j hj c hc hx, hm_3 l j hj c hc hx, hm_4 l j hj c hc hx, hm_5 l j hj c hc hx, hm_6 l j hj c hc hx, hm_7 l j hj c hc hx, hm_8 l j hj c hc hx, hm_9 l j hj c hc hx, hm_10 l j hj c hc hx, hm_11 l j hj c hc hx, hm_12 l j hj c hc hx, hm_13 l j hj c hc hx]
  rw [laws_heldNodeS.l1.eq_2, if_neg (by decide)]
  rw [hn_0 l j hj c hc hx, hn_1 l j hj c hc hx, hn_2 l j hj c hc hx]
  rw [laws_heldNodeS.l2.eq_2, if_neg (by decide), if_pos (by omega), if_pos (by omega), hx, w18, w19, w20, wj]
  show (if IntKind.i8.wrap (c + 17) = IntKind.i8.wrap (c + 17) then (if ((Int.tmod (c + 18) 3 == 0) != (Int.tmod (c + 18) 3 == 0)) = true then some (-1) else (if ((Int.tmod (c + 19) 3 == 0) != (Int.tmod (c + 19) 3 == 0)) = true then some (-1) else laws_heldNodeS.l0 k l (c + 20) ((j + 1 : Nat) : Int))) else some (-1)) = _
  rw [if_pos rfl, bne_self_eq_false, bne_self_eq_false, if_neg (by decide), if_neg (by decide)]
theorem held_l0 (n : Nat) (hn : n ≤ 1048576) : ∀ (d j : Nat), j + d = n → ∀ k, 22 * d + 5 < k → laws_heldNodeS.l0 k (mks n) (1 + 20 * (j : Int)) (j : Int) = some (1 + 20 * (n : Int)) := by
  intro d
  induction d with
  | zero =>
    intro j hj k hk
    obtain ⟨k, rfl⟩ : ∃ m, k = m + 1 := ⟨k - 1, by omega⟩
    have ej : (j : Int) = n := by omega
    simp only [laws_heldNodeS.l0]
    rw [if_neg (by rw [zec]; omega), ej]
  | succ d ih =>
    intro j hj k hk
    obtain ⟨k, rfl⟩ : ∃ m, k = m + 19 + 1 := ⟨k - 20, by omega⟩
    have hjo : j < (mks n).length := by rw [zec]; omega
    have hx : zh (mks n) (j : Int) = zmb (1 + 20 * (j : Int)) := by rw [zje, List.getD_eq_getElem?_getD, mks_at n j (by omega)]; rfl
    have ec : (1 + 20 * (j : Int)) + 20 = 1 + 20 * ((j + 1 : Nat) : Int) := by omega
    rw [laws_heldNodeS.l0.eq_2, if_pos (by rw [zec]; omega), held_round (mks n) j hjo (by omega) _ (by omega) hx k, ec]
    exact ih (j + 1) (by omega) k (by omega)
theorem held_f (n : Nat) (hn : n ≤ 1048576) (k : Nat) (hk : 22 * n + 5 < k) : laws_heldNodeS.f k (mks n) 1 = some (1 + 20 * (n : Int)) :=
  held_l0 n hn n 0 (by omega) k hk
theorem zwe (d : Nat) : ∀ (l : List S43) (i j : Nat), j + d = l.length → i + 4 * d ≤ 140737488355328 → l.length ≤ 140737488355328 → ∀ k, 6 * d < k →
    ∃ l', laws_markWordS.l0 k l i j = some (((i + 4 * d : Nat) : Int), l') := by
  induction d with
  | zero =>
    intro l i j hj hi hl k hk
    obtain ⟨k, rfl⟩ : ∃ m, k = m + 1 := ⟨k - 1, by omega⟩
    refine ⟨l, ?_⟩
    simp only [laws_markWordS.l0]; rw [if_neg (by omega)]; simp
  | succ d ih =>
    intro l i j hj hi hl k hk
    obtain ⟨k, rfl⟩ : ∃ m, k = m + 1 + 1 + 1 + 1 + 1 + 1 := ⟨k - 6, by omega⟩
    have n0 : wrap64 ((i : Int) + 1) = ((i + 1 : Nat) : Int) := zpb (n := 140737488355328) (j := i) (by omega) (by omega)
    have n1 : wrap64 (((i + 1 : Nat) : Int) + 1) = ((i + 2 : Nat) : Int) := zpb (n := 140737488355328) (j := i + 1) (by omega) (by omega)
    have n2 : wrap64 (((i + 2 : Nat) : Int) + 1) = ((i + 3 : Nat) : Int) := zpb (n := 140737488355328) (j := i + 2) (by omega) (by omega)
    have n3 : wrap64 (((i + 3 : Nat) : Int) + 1) = ((i + 4 : Nat) : Int) := zpb (n := 140737488355328) (j := i + 3) (by omega) (by omega)
    have nj : wrap64 ((j : Int) + 1) = ((j + 1 : Nat) : Int) := zpb (n := l.length) (j := j) (by omega) hl
    rw [laws_markWordS.l0.eq_2, if_pos (by omega)]
    rw [laws_markWordS.l1.eq_2, if_pos (by decide), if_pos (by omega), if_pos (by omega), if_pos (by decide), n0, wn_0]
    rw [laws_markWordS.l1.eq_2, if_pos (by decide), if_pos (by omega), if_pos (by rw [List.length_set]; omega), if_pos (by decide), n1, wn_1]
    rw [laws_markWordS.l1.eq_2, if_pos (by decide), if_pos (by omega), if_pos (by rw [List.length_set, List.length_set]; omega), if_pos (by decide), n2, wn_2]
    rw [laws_markWordS.l1.eq_2, if_pos (by decide), if_pos (by omega), if_pos (by rw [List.length_set, List.length_set, List.length_set]; omega), if_pos (by decide), n3, wn_3]
    rw [laws_markWordS.l1.eq_2, if_neg (by decide), nj]
    have key : ∀ L : List S43, L.length = l.length → ∃ l', laws_markWordS.l0 k L ((i + 4 : Nat) : Int) ((j + 1 : Nat) : Int) = some (((i + 4 * (d + 1) : Nat) : Int), l') := by
      intro L hL
      obtain ⟨l', e⟩ := ih L (i + 4) (j + 1) (by omega) (by omega) (by omega) k (by omega)
      refine ⟨l', e.trans ?_⟩
      congr 3; omega
    exact key _ (by simp only [List.length_set])
theorem zve (a b : Int) (l : List S43) (hl : l.length ≤ 1048576) (k : Nat) (hk : 6 * 1048576 < k) : ∃ l', laws_markFixed.f k a b l 1 = some (((1 + 4 * l.length : Nat) : Int), l') := by
  obtain ⟨l', e⟩ := zwe l.length l 1 0 (by omega) (by omega) (by omega) k (by omega)
  have e' : laws_markWordS.f k l 1 = some (((1 + 4 * l.length : Nat) : Int), l') := e
  refine ⟨l', ?_⟩
  unfold laws_markFixed.f
  rw [e']; rfl
end Go.Proofs.Ytmfbcklaomigaaa.M
