/- Words: marked and held. -/
import Derived.Test.YtmfbcklaomigaaaDoorDx14
import Derived.Test.YtmfbcklaomigaaaDoorDx15
import Derived.Test.YtmfbcklaomigaaaDoorLRBaseD
namespace Go.Proofs.YtmfbcklaomigaaaDoor.D
open Go.RowKit Go.Proofs.YtmfbcklaomigaaaDoorW.PrintWords Go.Proofs.YtmfbcklaomigaaaDoorW.PrintLast Go.Proofs.YtmfbcklaomigaaaDoorW.PrintMore
set_option linter.unusedVariables false
set_option linter.unusedSimpArgs false

theorem rd_set35 (out : List S35) (j : Nat) (e : S35) (hj : j < out.length) : rd_T35 (out.set j e) (j : Int) = e := by
  rw [rd35_at, List.getD_eq_getElem?_getD, List.getElem?_set_self hj]; rfl
theorem set_rd35 (out : List S35) (j : Nat) (hj : j < out.length) : out.set j (rd_T35 out (j : Int)) = out := by
  rw [rd35_at, List.getD_eq_getElem?_getD, List.getElem?_eq_getElem hj]
  exact List.set_getElem_self hj
def mk35 (c : Int) : S35 := ⟨IntKind.i8.wrap (c + 0), IntKind.i8.wrap (c + 1), IntKind.i8.wrap (c + 2), IntKind.i8.wrap (c + 3)⟩
def mkq (q : Nat) (c : Int) (x : S35) : S35 := ⟨(if 0 < q then IntKind.i8.wrap (c + 0) else x.f0), (if 1 < q then IntKind.i8.wrap (c + 1) else x.f1), (if 2 < q then IntKind.i8.wrap (c + 2) else x.f2), (if 3 < q then IntKind.i8.wrap (c + 3) else x.f3)⟩
theorem mm_0 (out : List S35) (x : S35) (j : Nat) (hj : j < out.length) (c : Int) (hc : 0 ≤ c ∧ c ≤ 100000000) (k : Nat) : laws_markWordS.l1 (k + 1) (out.set j (mkq 0 c x)) (c + 0) (j : Int) 0 = laws_markWordS.l1 k (out.set j (mkq 1 c x)) (c + 1) (j : Int) 1 := by
  have hw : wrap64 (c + 0 + 1) = c + 1 := by unfold wrap64; omega
  simp only [laws_markWordS.l1]
  rw [if_pos (by decide), if_pos (by omega), if_pos (by rw [List.length_set]; omega), if_pos (by decide), rd_set35 out j _ hj, Int.toNat_natCast, List.set_set, wn_0, hw]
  rfl
theorem mm_1 (out : List S35) (x : S35) (j : Nat) (hj : j < out.length) (c : Int) (hc : 0 ≤ c ∧ c ≤ 100000000) (k : Nat) : laws_markWordS.l1 (k + 1) (out.set j (mkq 1 c x)) (c + 1) (j : Int) 1 = laws_markWordS.l1 k (out.set j (mkq 2 c x)) (c + 2) (j : Int) 2 := by
  have hw : wrap64 (c + 1 + 1) = c + 2 := by unfold wrap64; omega
  simp only [laws_markWordS.l1]
  rw [if_pos (by decide), if_pos (by omega), if_pos (by rw [List.length_set]; omega), if_pos (by decide), rd_set35 out j _ hj, Int.toNat_natCast, List.set_set, wn_1, hw]
  rfl
theorem mm_2 (out : List S35) (x : S35) (j : Nat) (hj : j < out.length) (c : Int) (hc : 0 ≤ c ∧ c ≤ 100000000) (k : Nat) : laws_markWordS.l1 (k + 1) (out.set j (mkq 2 c x)) (c + 2) (j : Int) 2 = laws_markWordS.l1 k (out.set j (mkq 3 c x)) (c + 3) (j : Int) 3 := by
  have hw : wrap64 (c + 2 + 1) = c + 3 := by unfold wrap64; omega
  simp only [laws_markWordS.l1]
  rw [if_pos (by decide), if_pos (by omega), if_pos (by rw [List.length_set]; omega), if_pos (by decide), rd_set35 out j _ hj, Int.toNat_natCast, List.set_set, wn_2, hw]
  rfl
theorem mm_3 (out : List S35) (x : S35) (j : Nat) (hj : j < out.length) (c : Int) (hc : 0 ≤ c ∧ c ≤ 100000000) (k : Nat) : laws_markWordS.l1 (k + 1) (out.set j (mkq 3 c x)) (c + 3) (j : Int) 3 = laws_markWordS.l1 k (out.set j (mkq 4 c x)) (c + 4) (j : Int) 4 := by
  have hw : wrap64 (c + 3 + 1) = c + 4 := by unfold wrap64; omega
  simp only [laws_markWordS.l1]
  rw [if_pos (by decide), if_pos (by omega), if_pos (by rw [List.length_set]; omega), if_pos (by decide), rd_set35 out j _ hj, Int.toNat_natCast, List.set_set, wn_3, hw]
  rfl
theorem mark_round (out : List S35) (j : Nat) (hj : j < out.length) (hj2 : j ≤ 10000000) (c : Int) (hc : 0 ≤ c ∧ c ≤ 100000000) (k : Nat) : laws_markWordS.l1 (k + 5) out c (j : Int) 0 = laws_markWordS.l0 k (out.set j (mk35 c)) (c + 4) ((j + 1 : Nat) : Int) := by
  have h0 : out.set j (mkq 0 c (rd_T35 out (j : Int))) = out := set_rd35 out j hj
  have e : laws_markWordS.l1 (k + 5) out c (j : Int) 0 = laws_markWordS.l1 (k + 5) (out.set j (mkq 0 c (rd_T35 out (j : Int)))) (c + 0) (j : Int) 0 := by rw [h0, Int.add_zero]
  have wj : wrap64 ((j : Int) + 1) = ((j + 1 : Nat) : Int) := by unfold wrap64; omega
  rw [e, mm_0 out (rd_T35 out (j : Int)) j hj c hc, mm_1 out (rd_T35 out (j : Int)) j hj c hc, mm_2 out (rd_T35 out (j : Int)) j hj c hc, mm_3 out (rd_T35 out (j : Int)) j hj c hc]
  rw [laws_markWordS.l1.eq_2, if_neg (by decide), wj]
  rfl
def mks (n : Nat) : List S35 := (List.range n).map fun i : Nat => mk35 (1 + 4 * (i : Int))
theorem mks_length (n : Nat) : (mks n).length = n := by simp [mks]
theorem mks_at (n i : Nat) (h : i < n) : (mks n)[i]? = some (mk35 (1 + 4 * (i : Int))) := by simp [mks, h]
theorem mark_l0 (n : Nat) (hn : n ≤ 1048576) : ∀ (d j : Nat) (out : List S35), j + d = n → out.length = n → (∀ i, i < j → out[i]? = (mks n)[i]?) → ∀ k, 6 * d + 5 < k → laws_markWordS.l0 k out (1 + 4 * (j : Int)) (j : Int) = some (1 + 4 * (n : Int), mks n) := by
  intro d
  induction d with
  | zero =>
    intro j out hj hl h2 k hk
    obtain ⟨k, rfl⟩ : ∃ m, k = m + 1 := ⟨k - 1, by omega⟩
    have e : out = mks n := by
      refine List.ext_getElem? fun i => ?_
      by_cases hi : i < j
      · exact h2 i hi
      · rw [List.getElem?_eq_none (by omega), List.getElem?_eq_none (by rw [mks_length]; omega)]
    have ej : (j : Int) = n := by omega
    subst e
    simp only [laws_markWordS.l0]
    rw [if_neg (by omega), ej]
  | succ d ih =>
    intro j out hj hl h2 k hk
    obtain ⟨k, rfl⟩ : ∃ m, k = m + 5 + 1 := ⟨k - 6, by omega⟩
    have hjo : j < out.length := by omega
    have ec : (1 + 4 * (j : Int)) + 4 = 1 + 4 * ((j + 1 : Nat) : Int) := by omega
    rw [laws_markWordS.l0.eq_2, if_pos (by omega), mark_round out j hjo (by omega) _ (by omega) k, ec]
    refine ih (j + 1) _ (by omega) (by rw [List.length_set]; exact hl) (fun i hi => ?_) k (by omega)
    by_cases ei : i = j
    · subst ei; rw [List.getElem?_set_self hjo, mks_at n i (by omega)]
    · rw [List.getElem?_set_ne (by omega)]; exact h2 i (by omega)
theorem markFixed_f (a b : Int) (l : List S35) (hl : l.length ≤ 1048576) (k : Nat) (hk : 7000000 < k) : laws_markFixed.f k a b l 1 = some (1 + 4 * (l.length : Int), mks l.length) := by
  have e : laws_markWordS.f k l 1 = some (1 + 4 * (l.length : Int), mks l.length) := mark_l0 l.length hl l.length 0 l (by omega) rfl (fun i h => absurd h (by omega)) k (by omega)
  unfold laws_markFixed.f
  rw [e]; rfl
theorem hm_0 (l : List S35) (j : Nat) (hj : j < l.length) (c : Int) (hc : 0 ≤ c ∧ c ≤ 100000000) (hx : rd_T35 l (j : Int) = mk35 c) (k : Nat) : laws_heldWordS.l1 (k + 1) l (c + 0) (j : Int) 0 = laws_heldWordS.l1 k l (c + 1) (j : Int) 1 := by
  have hw : wrap64 (c + 0 + 1) = c + 1 := by unfold wrap64; omega
  simp only [laws_heldWordS.l1]
  rw [if_pos (by decide), if_pos (by omega), if_pos (by omega), if_pos (by decide), hx, wn_0, hw]
  exact if_pos rfl
theorem hm_1 (l : List S35) (j : Nat) (hj : j < l.length) (c : Int) (hc : 0 ≤ c ∧ c ≤ 100000000) (hx : rd_T35 l (j : Int) = mk35 c) (k : Nat) : laws_heldWordS.l1 (k + 1) l (c + 1) (j : Int) 1 = laws_heldWordS.l1 k l (c + 2) (j : Int) 2 := by
  have hw : wrap64 (c + 1 + 1) = c + 2 := by unfold wrap64; omega
  simp only [laws_heldWordS.l1]
  rw [if_pos (by decide), if_pos (by omega), if_pos (by omega), if_pos (by decide), hx, wn_1, hw]
  exact if_pos rfl
theorem hm_2 (l : List S35) (j : Nat) (hj : j < l.length) (c : Int) (hc : 0 ≤ c ∧ c ≤ 100000000) (hx : rd_T35 l (j : Int) = mk35 c) (k : Nat) : laws_heldWordS.l1 (k + 1) l (c + 2) (j : Int) 2 = laws_heldWordS.l1 k l (c + 3) (j : Int) 3 := by
  have hw : wrap64 (c + 2 + 1) = c + 3 := by unfold wrap64; omega
  simp only [laws_heldWordS.l1]
  rw [if_pos (by decide), if_pos (by omega), if_pos (by omega), if_pos (by decide), hx, wn_2, hw]
  exact if_pos rfl
theorem hm_3 (l : List S35) (j : Nat) (hj : j < l.length) (c : Int) (hc : 0 ≤ c ∧ c ≤ 100000000) (hx : rd_T35 l (j : Int) = mk35 c) (k : Nat) : laws_heldWordS.l1 (k + 1) l (c + 3) (j : Int) 3 = laws_heldWordS.l1 k l (c + 4) (j : Int) 4 := by
  have hw : wrap64 (c + 3 + 1) = c + 4 := by unfold wrap64; omega
  simp only [laws_heldWordS.l1]
  rw [if_pos (by decide), if_pos (by omega), if_pos (by omega), if_pos (by decide), hx, wn_3, hw]
  exact if_pos rfl
theorem held_round (l : List S35) (j : Nat) (hj : j < l.length) (hj2 : j ≤ 10000000) (c : Int) (hc : 0 ≤ c ∧ c ≤ 100000000) (hx : rd_T35 l (j : Int) = mk35 c) (k : Nat) : laws_heldWordS.l1 (k + 5) l c (j : Int) 0 = laws_heldWordS.l0 k l (c + 4) ((j + 1 : Nat) : Int) := by
  have e : laws_heldWordS.l1 (k + 5) l c (j : Int) 0 = laws_heldWordS.l1 (k + 5) l (c + 0) (j : Int) 0 := by rw [Int.add_zero]
  have wj : wrap64 ((j : Int) + 1) = ((j + 1 : Nat) : Int) := by unfold wrap64; omega
  rw [e, hm_0 l j hj c hc hx, hm_1 l j hj c hc hx, hm_2 l j hj c hc hx, hm_3 l j hj c hc hx]
  rw [laws_heldWordS.l1.eq_2, if_neg (by decide), wj]
theorem held_l0 (n : Nat) (hn : n ≤ 1048576) : ∀ (d j : Nat), j + d = n → ∀ k, 6 * d + 5 < k → laws_heldWordS.l0 k (mks n) (1 + 4 * (j : Int)) (j : Int) = some (1 + 4 * (n : Int)) := by
  intro d
  induction d with
  | zero =>
    intro j hj k hk
    obtain ⟨k, rfl⟩ : ∃ m, k = m + 1 := ⟨k - 1, by omega⟩
    have ej : (j : Int) = n := by omega
    simp only [laws_heldWordS.l0]
    rw [if_neg (by rw [mks_length]; omega), ej]
  | succ d ih =>
    intro j hj k hk
    obtain ⟨k, rfl⟩ : ∃ m, k = m + 5 + 1 := ⟨k - 6, by omega⟩
    have hjo : j < (mks n).length := by rw [mks_length]; omega
    have hx : rd_T35 (mks n) (j : Int) = mk35 (1 + 4 * (j : Int)) := by rw [rd35_at, List.getD_eq_getElem?_getD, mks_at n j (by omega)]; rfl
    have ec : (1 + 4 * (j : Int)) + 4 = 1 + 4 * ((j + 1 : Nat) : Int) := by omega
    rw [laws_heldWordS.l0.eq_2, if_pos (by rw [mks_length]; omega), held_round (mks n) j hjo (by omega) _ (by omega) hx k, ec]
    exact ih (j + 1) (by omega) k (by omega)
theorem heldFixed_f (a b : Int) (n : Nat) (hn : n ≤ 1048576) (k : Nat) (hk : 7000000 < k) : laws_heldFixed.f k a b (mks n) 1 = some (1 + 4 * (n : Int)) := by
  have e : laws_heldWordS.f k (mks n) 1 = some (1 + 4 * (n : Int)) := held_l0 n hn n 0 (by omega) k (by omega)
  unfold laws_heldFixed.f
  rw [e]
  simp only [Option.bind_some]
  rw [if_neg (by omega)]

end Go.Proofs.YtmfbcklaomigaaaDoor.D
