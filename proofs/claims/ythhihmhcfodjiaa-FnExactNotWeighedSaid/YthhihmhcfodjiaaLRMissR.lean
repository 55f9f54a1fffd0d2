/- The masses that are not weighed: both sides gather the same. -/
import Derived.Test.YthhihmhcfodjiaaLNotR
import Derived.Test.YthhihmhcfodjiaaLRBaseR
import Derived.Test.YthhihmhcfodjiaaLRFewR
import Derived.Test.YthhihmhcfodjiaaLUpR
import Derived.Test.YthhihmhcfodjiaaRx9
namespace Go.Proofs.Ythhihmhcfodjiaa.R
open Go.RowKit Go.Proofs.YthhihmhcfodjiaaW.PrintWords Go.Proofs.YthhihmhcfodjiaaW.PrintLast Go.Proofs.YthhihmhcfodjiaaW.PrintMore
set_option linter.unusedVariables false
set_option linter.unusedSimpArgs false

theorem miss_out {k : Nat} {s x9 : Int} {T : List (List Int)} {acc : List Int} (h : ¬ x9 ≤ s) : spec_l01Missing.l0 (k + 1) s T acc x9 = some acc := by
  conv => lhs; unfold spec_l01Missing.l0
  rw [if_neg h]
theorem miss_in {k : Nat} {s x9 q x1 : Int} {T : List (List Int)} {acc : List Int} (h : x9 ≤ s) (h1 : 0 < (T.length : Int)) (hq : wrap64 (2000 + x9) = q) (h2 : 0 ≤ q) (h3 : q < ((rd_L2 T 0).length : Int)) (hx : wrap64 (x9 + 1) = x1) :
    spec_l01Missing.l0 (k + 1) s T acc x9 = if rd (rd_L2 T 0) q < 0 then (if acc.length < 17592186044416 then spec_l01Missing.l0 k s T (acc ++ [x9]) x1 else none) else spec_l01Missing.l0 k s T acc x1 := by
  conv => lhs; unfold spec_l01Missing.l0
  rw [if_pos h, if_pos h1, hq, if_pos h2, if_pos h3, hx]
theorem miss_eq {l : List Int} {b : Bool} {s : Int} (hs : s ≤ 2000) {T : List (List Int)} (hT : T.length = l.length + 1) (hR : Rowd l b 0 (rd_L2 T 0)) : ∀ (d m : Nat) (acc : List Int), (m : Int) + d = s + 1 → acc.length ≤ m →
    ∃ r, (∀ D, d < D → missFrom b l s D m acc = some r) ∧ (∀ k, d < k → spec_l01Missing.l0 k s T acc (m : Int) = some r) := by
  intro d
  induction d with
  | zero =>
    intro m acc hm hl
    refine ⟨acc, fun D hD => ?_, fun k hk => ?_⟩
    · obtain ⟨D, rfl⟩ : ∃ x, D = x + 1 := ⟨D - 1, by omega⟩
      unfold missFrom
      rw [if_neg (by omega)]
    · obtain ⟨k, rfl⟩ : ∃ x, k = x + 1 := ⟨k - 1, by omega⟩
      exact miss_out (by omega)
  | succ d ih =>
    intro m acc hm hl
    have hms : (m : Int) ≤ s := by omega
    obtain ⟨q, hq⟩ : ∃ q : Nat, (q : Int) = 2000 + m := ⟨2000 + m, by omega⟩
    obtain ⟨r1, r2⟩ := hR
    obtain ⟨-, -, u3⟩ := r2 q (by omega)
    rw [List.drop_zero, show (q : Int) - 2000 = (m : Int) by omega] at u3
    have h1 : (0 : Int) < (T.length : Int) := by omega
    have h2 : (0 : Int) ≤ (q : Int) := Int.natCast_nonneg q
    have h3 : (q : Int) < ((rd_L2 T 0).length : Int) := by omega
    have E1 : Aside0 (wrap64 (2000 + (m : Int)) = (q : Int)) := ⟨by rw [hq]; exact wrap_of (by omega) (by omega)⟩
    have E2 : Aside0 (wrap64 ((m : Int) + 1) = ((m + 1 : Nat) : Int)) := ⟨wrap_of (by omega) (by omega)⟩
    by_cases z : ways b l (m : Int) = 0
    · obtain ⟨r, g1, g2⟩ := ih (m + 1) (acc ++ [(m : Int)]) (by omega) (by rw [List.length_append]; simp; omega)
      have hneg : rd (rd_L2 T 0) (q : Int) < 0 := by
        by_cases hh : 0 ≤ rd (rd_L2 T 0) (q : Int)
        · exact absurd z (u3.mp hh)
        · omega
      refine ⟨r, fun D hD => ?_, fun k hk => ?_⟩
      · obtain ⟨D, rfl⟩ : ∃ x, D = x + 1 := ⟨D - 1, by omega⟩
        unfold missFrom
        rw [if_pos hms, if_pos z]
        exact g1 D (by omega)
      · obtain ⟨k, rfl⟩ : ∃ x, k = x + 1 := ⟨k - 1, by omega⟩
        have hal : acc.length < 17592186044416 := by omega
        rw [miss_in hms h1 E1.out h2 h3 E2.out, if_pos hneg, if_pos hal]
        exact g2 k (by omega)
    · obtain ⟨r, g1, g2⟩ := ih (m + 1) acc (by omega) (by omega)
      have hneg : ¬ rd (rd_L2 T 0) (q : Int) < 0 := by
        have := u3.mpr z
        omega
      refine ⟨r, fun D hD => ?_, fun k hk => ?_⟩
      · obtain ⟨D, rfl⟩ : ∃ x, D = x + 1 := ⟨D - 1, by omega⟩
        unfold missFrom
        rw [if_pos hms, if_neg z]
        exact g1 D (by omega)
      · obtain ⟨k, rfl⟩ : ∃ x, k = x + 1 := ⟨k - 1, by omega⟩
        rw [miss_in hms h1 E1.out h2 h3 E2.out, if_neg hneg]
        exact g2 k (by omega)
/-- Both sides' lists for valid weights. -/
theorem miss_f {l : List Int} {b : Bool} (ho : Okay l) : ∃ r, missFrom b l l.sum 3000 1 [] = some r ∧ ∀ k, 900000 < k → spec_l01Missing.f k l l.sum b = some r := by
  obtain ⟨T, ⟨t1, t2⟩, hT⟩ := few_f (b := b) ho
  have h0 := sum_ge l ho.2.2.1
  have h1 := ho.1
  have h2 := ho.2.2.2
  obtain ⟨r, g1, g2⟩ := miss_eq (b := b) h2 t1 t2 l.sum.toNat 1 [] (by omega) (by simp)
  refine ⟨r, g1 3000 (by omega), fun k hk => ?_⟩
  unfold spec_l01Missing.f
  rw [hT k hk, Option.bind_some]
  exact g2 k (by omega)
theorem miss_pre {l : List Int} {b : Bool} {s : Int} : ∀ (D m : Nat) (acc r : List Int), missFrom b l s D m acc = some r → ∃ t, r = acc ++ t := by
  intro D
  induction D with
  | zero => intro m acc r h; cases h
  | succ D ih =>
    intro m acc r h
    unfold missFrom at h
    by_cases hm : (m : Int) ≤ s
    · rw [if_pos hm] at h
      by_cases z : ways b l (m : Int) = 0
      · rw [if_pos z] at h
        obtain ⟨t, rfl⟩ := ih _ _ _ h
        exact ⟨(m : Int) :: t, by simp⟩
      · rw [if_neg z] at h
        exact ih _ _ _ h
    · rw [if_neg hm] at h
      obtain rfl := Option.some.inj h
      exact ⟨[], by simp⟩
/-- The greatest mass up to which all are weighed is the one ahead of the first that is not. -/
theorem up_eq {l : List Int} {b : Bool} (ho : Okay l) : ∀ (d m D U : Nat) (r : List Int), (m : Int) + d = l.sum → d < U → missFrom b l l.sum D (m + 1) [] = some r → ∃ u : Nat, upFrom b l U m = some u ∧ (r = [] → (u : Int) = l.sum) ∧ (r ≠ [] → (u : Int) = rd r 0 - 1) := by
  intro d
  induction d with
  | zero =>
    intro m D U r hm hU h
    obtain ⟨U, rfl⟩ : ∃ x, U = x + 1 := ⟨U - 1, by omega⟩
    have z : ways b l ((m : Int) + 1) = 0 := by
      by_cases z : ways b l ((m : Int) + 1) = 0
      · exact z
      · have := ways_far b l _ ho.2.2.1 z
        omega
    refine ⟨m, by unfold upFrom; rw [if_pos z], fun _ => by omega, fun hr => ?_⟩
    cases D with
    | zero => cases h
    | succ D =>
      unfold missFrom at h
      rw [if_neg (by omega)] at h
      exact absurd (Option.some.inj h).symm hr
  | succ d ih =>
    intro m D U r hm hU h
    obtain ⟨U, rfl⟩ : ∃ x, U = x + 1 := ⟨U - 1, by omega⟩
    cases D with
    | zero => cases h
    | succ D =>
      unfold missFrom at h
      rw [if_pos (by omega)] at h
      have e1 : ((m + 1 : Nat) : Int) = (m : Int) + 1 := by omega
      rw [e1] at h
      by_cases z : ways b l ((m : Int) + 1) = 0
      · rw [if_pos z] at h
        obtain ⟨t, rfl⟩ := miss_pre _ _ _ _ h
        refine ⟨m, by unfold upFrom; rw [if_pos z], fun hr => by simp at hr, fun _ => ?_⟩
        have : rd ([] ++ [(m : Int) + 1] ++ t) 0 = (m : Int) + 1 := rfl
        omega
      · rw [if_neg z] at h
        obtain ⟨u, u1, u2, u3⟩ := ih (m + 1) D U r (by omega) (by omega) h
        exact ⟨u, by unfold upFrom; rw [if_neg z]; exact u1, u2, u3⟩
theorem sum_f {xs : List Int} (ho : Okay xs) (hw : ∀ x ∈ xs, (Lit.int .i16 x).wf = true) (k : Nat) (hk : 100 < k) : spec_l01Sum.f k xs = some xs.sum ∧ impl_Weights_sum.f k xs = some xs.sum := by
  have h := ho.2.1
  have e : sumW xs 0 = xs.sum := by rw [sumW_eq xs 0 hw (by omega) (by omega), Int.zero_add]
  exact ⟨by rw [specSum_f xs (by omega) k (by omega), e], by rw [implSum_f xs (by omega) k (by omega), e]⟩
theorem valid_f (xs : List Int) (hn : xs.length ≤ 1048576) (hw : ∀ x ∈ xs, (Lit.int .i16 x).wf = true) : ∃ v : Bool, (∀ k, 2097160 < k → spec_l01Ok.f k xs = some v ∧ impl_ValidWeights.f k xs = some v) ∧ (v = true → Okay xs) := by
  by_cases v : ValidW xs
  · exact ⟨true, fun k hk => ⟨(specOk_f xs (by omega) k (by omega)).1 v, (implValid_f xs (by omega) k (by omega)).1 v⟩, fun _ => okay_of v hw⟩
  · exact ⟨false, fun k hk => ⟨(specOk_f xs (by omega) k (by omega)).2 v, (implValid_f xs (by omega) k (by omega)).2 v⟩, fun h => by cases h⟩
theorem up_bound {l : List Int} {b : Bool} : ∀ (U m u : Nat), upFrom b l U m = some u → u ≤ m + U := by
  intro U
  induction U with
  | zero => intro m u h; cases h
  | succ U ih =>
    intro m u h
    unfold upFrom at h
    by_cases z : ways b l ((m : Int) + 1) = 0
    · rw [if_pos z] at h
      have := Option.some.inj h
      omega
    · rw [if_neg z] at h
      have := ih _ _ h
      omega

end Go.Proofs.Ythhihmhcfodjiaa.R
