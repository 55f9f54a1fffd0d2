/- Plans: following a valid plan ends, and is the same on both sides. -/
import Derived.Test.YtmmonhpjjjdnjaaLPBaseU
import Derived.Test.YtmmonhpjjjdnjaaLPPlanU
import Derived.Test.YtmmonhpjjjdnjaaLPWeighU
import Derived.Test.YtmmonhpjjjdnjaaUx16
import Derived.Test.YtmmonhpjjjdnjaaUx23
namespace Go.Proofs.Ytmmonhpjjjdnjaa.U
open Go.RowKit Go.Proofs.YtmmonhpjjjdnjaaW.PrintWords Go.Proofs.YtmmonhpjjjdnjaaW.PrintLast Go.Proofs.YtmmonhpjjjdnjaaW.PrintMore
set_option linter.unusedVariables false
set_option linter.unusedSimpArgs false

theorem wrap64_in' (n : Int) (h : -1 ≤ n) (h2 : n ≤ 1) : wrap64 n = n := by unfold wrap64; omega
theorem run_l0 (plan : List S54) (a : Int) (b : Bool) : ∀ (k : Nat) (i m : Int), spec_l03Run.l0 k plan i m a b = impl_follow.l0 k plan i m a b := by
  intro k
  induction k with
  | zero => intro i m; rfl
  | succ k ih =>
    intro i m
    simp only [spec_l03Run.l0, impl_follow.l0, spec_l03Result.f, impl_resultOf.f, ih]
theorem res_some (x : S50) (hx : ∀ q : Nat, q < 14 → -1 ≤ rd (pansL x) q ∧ rd (pansL x) q ≤ 1) (a : Int) (b : Bool) (ha : -1 ≤ a ∧ a < 13) :
    ∃ v, impl_resultOf.f x.f0 x.f1 x.f2 x.f3 x.f4 x.f5 x.f6 x.f7 x.f8 x.f9 x.f10 x.f11 x.f12 x.f13 a b = some v ∧ -1 ≤ v ∧ v ≤ 1 := by
  unfold impl_resultOf.f
  by_cases h : a < 0
  · exact ⟨0, by rw [if_pos h], by omega, by omega⟩
  · obtain ⟨q, rfl⟩ : ∃ q : Nat, a = q := ⟨a.toNat, by omega⟩
    obtain ⟨h1, h2⟩ := hx q (by omega)
    have w : wrap64 (rd [x.f0, x.f1, x.f2, x.f3, x.f4, x.f5, x.f6, x.f7, x.f8, x.f9, x.f10, x.f11, x.f12, x.f13] q) = rd (pansL x) q := wrap64_in' _ (by show -1 ≤ rd (pansL x) q; exact h1) (by show rd (pansL x) q ≤ 1; exact h2)
    have w2 : wrap64 (-(rd (pansL x) q)) = -(rd (pansL x) q) := wrap64_in' _ (by omega) (by omega)
    rw [if_neg h]
    cases b
    · refine ⟨-(rd (pansL x) q), ?_, by omega, by omega⟩
      rw [if_neg (by simp), if_pos (by omega), if_pos (by omega), w, w2]
    · refine ⟨rd (pansL x) q, ?_, by omega, by omega⟩
      rw [if_pos rfl, if_pos (by omega), if_pos (by omega), w]
/-- From a node on, a valid plan ends. -/
theorem follow_some (plan : List S54) (hg : ∀ i : Nat, i < plan.length → GoodNode plan.length i (rd_T54 plan (i : Int))) (a : Int) (b : Bool) (ha : -1 ≤ a ∧ a < 13) :
    ∀ (d i : Nat) (m : Int), i < plan.length → plan.length - i ≤ d → ∃ v, ∀ k, d < k → impl_follow.l0 k plan (i : Int) m a b = some v := by
  intro d
  induction d with
  | zero => intro i m hi hd; omega
  | succ d ih =>
    intro i m hi hd
    by_cases leaf : (rd_T54 plan (i : Int)).f3 = true
    · refine ⟨((rd_T54 plan (i : Int)).f2.f0, (rd_T54 plan (i : Int)).f2.f1, m), fun k hk => ?_⟩
      obtain ⟨k, rfl⟩ : ∃ m, k = m + 1 := ⟨k - 1, by omega⟩
      simp only [impl_follow.l0]
      rw [if_pos (by omega), if_pos (by omega), if_pos leaf]
    · rcases hg i hi with h | ⟨hp, hn⟩
      · exact absurd h leaf
      · obtain ⟨v, e, v1, v2⟩ := res_some (rd_T54 plan (i : Int)).f0 hp a b ha
        obtain ⟨r, hr⟩ : ∃ r : Nat, (r : Int) = v + 1 := ⟨(v + 1).toNat, by omega⟩
        obtain ⟨n1, n2⟩ := hn r (by omega)
        obtain ⟨q, hq⟩ : ∃ q : Nat, (q : Int) = rd (nextL (rd_T54 plan (i : Int)).f1) r := ⟨(rd (nextL (rd_T54 plan (i : Int)).f1) r).toNat, by omega⟩
        obtain ⟨u, hu⟩ := ih q (wrap64 (m + 1)) (by omega) (by omega)
        refine ⟨u, fun k hk => ?_⟩
        obtain ⟨k, rfl⟩ : ∃ m, k = m + 1 := ⟨k - 1, by omega⟩
        have wv : wrap64 (v + 1) = (r : Int) := by rw [hr]; unfold wrap64; omega
        simp only [impl_follow.l0]
        rw [if_pos (by omega), if_pos (by omega), if_neg leaf, e]
        simp only [Option.bind_some]
        rw [wv, if_pos (by omega), if_pos (by omega)]
        have e2 : rd [(rd_T54 plan (i : Int)).f1.f0, (rd_T54 plan (i : Int)).f1.f1, (rd_T54 plan (i : Int)).f1.f2] (r : Int) = (q : Int) := hq.symm
        rw [e2]
        exact hu k (by omega)
/-- Both sides follow a valid plan to the same end. -/
theorem run_f (plan : List S54) (h1 : 1 ≤ plan.length) (h2 : plan.length ≤ 400) (hg : ∀ i : Nat, i < plan.length → GoodNode plan.length i (rd_T54 plan (i : Int))) (x : S46) (hx : GoodCase x) :
    ∃ v, ∀ k, 400 < k → spec_l03Run.f k plan x.f0 x.f1 = some v ∧ impl_follow.f k plan x.f0 x.f1 = some v := by
  obtain ⟨v, hv⟩ := follow_some plan hg x.f0 x.f1 hx 400 0 0 (by omega) (by omega)
  refine ⟨v, fun k hk => ?_⟩
  unfold spec_l03Run.f impl_follow.f
  rw [run_l0]
  exact ⟨hv k hk, hv k hk⟩

end Go.Proofs.Ytmmonhpjjjdnjaa.U
