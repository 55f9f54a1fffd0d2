/- Plans: mirrored, marked and held. -/
import Derived.Test.YtmmonhpjjjdnjaaLPBaseY
import Derived.Test.YtmmonhpjjjdnjaaLPPlanY
import Derived.Test.YtmmonhpjjjdnjaaLPWeighY
import Derived.Test.YtmmonhpjjjdnjaaYx16
import Derived.Test.YtmmonhpjjjdnjaaYx21
import Derived.Test.YtmmonhpjjjdnjaaYx22
import Derived.Test.YtmmonhpjjjdnjaaYx23
import Derived.Test.YtmmonhpjjjdnjaaYx24
namespace Go.Proofs.Ytmmonhpjjjdnjaa.Y
open Go.RowKit Go.Proofs.YtmmonhpjjjdnjaaW.PrintWords Go.Proofs.YtmmonhpjjjdnjaaW.PrintLast Go.Proofs.YtmmonhpjjjdnjaaW.PrintMore
set_option linter.unusedVariables false
set_option linter.unusedSimpArgs false

def negq (q : Nat) (x : S54) : S54 := ⟨⟨(if 0 < q then IntKind.i8.wrap (-x.f0.f0) else x.f0.f0), (if 1 < q then IntKind.i8.wrap (-x.f0.f1) else x.f0.f1), (if 2 < q then IntKind.i8.wrap (-x.f0.f2) else x.f0.f2), (if 3 < q then IntKind.i8.wrap (-x.f0.f3) else x.f0.f3), (if 4 < q then IntKind.i8.wrap (-x.f0.f4) else x.f0.f4), (if 5 < q then IntKind.i8.wrap (-x.f0.f5) else x.f0.f5), (if 6 < q then IntKind.i8.wrap (-x.f0.f6) else x.f0.f6), (if 7 < q then IntKind.i8.wrap (-x.f0.f7) else x.f0.f7), (if 8 < q then IntKind.i8.wrap (-x.f0.f8) else x.f0.f8), (if 9 < q then IntKind.i8.wrap (-x.f0.f9) else x.f0.f9), (if 10 < q then IntKind.i8.wrap (-x.f0.f10) else x.f0.f10), (if 11 < q then IntKind.i8.wrap (-x.f0.f11) else x.f0.f11), (if 12 < q then IntKind.i8.wrap (-x.f0.f12) else x.f0.f12), (if 13 < q then IntKind.i8.wrap (-x.f0.f13) else x.f0.f13)⟩, x.f1, x.f2, x.f3⟩
def mir (x : S54) : S54 := ⟨(negq 14 x).f0, ⟨x.f1.f2, x.f1.f1, x.f1.f0⟩, x.f2, x.f3⟩
theorem rd_set54 (out : List S54) (j : Nat) (e : S54) (hj : j < out.length) : rd_T54 (out.set j e) (j : Int) = e := by
  rw [rd54_at, List.getD_eq_getElem?_getD, List.getElem?_set_self hj]; rfl
theorem set_rd54 (out : List S54) (j : Nat) (hj : j < out.length) : out.set j (rd_T54 out (j : Int)) = out := by
  rw [rd54_at, List.getD_eq_getElem?_getD, List.getElem?_eq_getElem hj]
  exact List.set_getElem_self hj
theorem sm_0 (plan out : List S54) (x : S54) (j : Nat) (hj : j < out.length) (k : Nat) : spec_MirrorPlan.l1 (k + 1) plan (out.set j (negq 0 x)) (j : Int) 0 = spec_MirrorPlan.l1 k plan (out.set j (negq 1 x)) (j : Int) 1 := by
  simp only [spec_MirrorPlan.l1]
  rw [if_pos (by decide), if_pos (by omega), if_pos (by rw [List.length_set]; omega), if_pos (by decide), rd_set54 out j _ hj, Int.toNat_natCast, List.set_set, wn_0]
  rfl
theorem im_0 (out : List S54) (x : S54) (j : Nat) (hj : j < out.length) (u v : Int) (k : Nat) : impl_MirrorPlan.l1 (k + 1) (out.set j (negq 0 x)) (j : Int) u v 0 = impl_MirrorPlan.l1 k (out.set j (negq 1 x)) (j : Int) u v 1 := by
  simp only [impl_MirrorPlan.l1]
  rw [if_pos (by decide), if_pos (by omega), if_pos (by rw [List.length_set]; omega), if_pos (by decide), rd_set54 out j _ hj, Int.toNat_natCast, List.set_set, wn_0]
  rfl
theorem sm_1 (plan out : List S54) (x : S54) (j : Nat) (hj : j < out.length) (k : Nat) : spec_MirrorPlan.l1 (k + 1) plan (out.set j (negq 1 x)) (j : Int) 1 = spec_MirrorPlan.l1 k plan (out.set j (negq 2 x)) (j : Int) 2 := by
  simp only [spec_MirrorPlan.l1]
  rw [if_pos (by decide), if_pos (by omega), if_pos (by rw [List.length_set]; omega), if_pos (by decide), rd_set54 out j _ hj, Int.toNat_natCast, List.set_set, wn_1]
  rfl
theorem im_1 (out : List S54) (x : S54) (j : Nat) (hj : j < out.length) (u v : Int) (k : Nat) : impl_MirrorPlan.l1 (k + 1) (out.set j (negq 1 x)) (j : Int) u v 1 = impl_MirrorPlan.l1 k (out.set j (negq 2 x)) (j : Int) u v 2 := by
  simp only [impl_MirrorPlan.l1]
  rw [if_pos (by decide), if_pos (by omega), if_pos (by rw [List.length_set]; omega), if_pos (by decide), rd_set54 out j _ hj, Int.toNat_natCast, List.set_set, wn_1]
  rfl
theorem sm_2 (plan out : List S54) (x : S54) (j : Nat) (hj : j < out.length) (k : Nat) : spec_MirrorPlan.l1 (k + 1) plan (out.set j (negq 2 x)) (j : Int) 2 = spec_MirrorPlan.l1 k plan (out.set j (negq 3 x)) (j : Int) 3 := by
  simp only [spec_MirrorPlan.l1]
  rw [if_pos (by decide), if_pos (by omega), if_pos (by rw [List.length_set]; omega), if_pos (by decide), rd_set54 out j _ hj, Int.toNat_natCast, List.set_set, wn_2]
  rfl
theorem im_2 (out : List S54) (x : S54) (j : Nat) (hj : j < out.length) (u v : Int) (k : Nat) : impl_MirrorPlan.l1 (k + 1) (out.set j (negq 2 x)) (j : Int) u v 2 = impl_MirrorPlan.l1 k (out.set j (negq 3 x)) (j : Int) u v 3 := by
  simp only [impl_MirrorPlan.l1]
  rw [if_pos (by decide), if_pos (by omega), if_pos (by rw [List.length_set]; omega), if_pos (by decide), rd_set54 out j _ hj, Int.toNat_natCast, List.set_set, wn_2]
  rfl
theorem sm_3 (plan out : List S54) (x : S54) (j : Nat) (hj : j < out.length) (k : Nat) : spec_MirrorPlan.l1 (k + 1) plan (out.set j (negq 3 x)) (j : Int) 3 = spec_MirrorPlan.l1 k plan (out.set j (negq 4 x)) (j : Int) 4 := by
  simp only [spec_MirrorPlan.l1]
  rw [if_pos (by decide), if_pos (by omega), if_pos (by rw [List.length_set]; omega), if_pos (by decide), rd_set54 out j _ hj, Int.toNat_natCast, List.set_set, wn_3]
  rfl
theorem im_3 (out : List S54) (x : S54) (j : Nat) (hj : j < out.length) (u v : Int) (k : Nat) : impl_MirrorPlan.l1 (k + 1) (out.set j (negq 3 x)) (j : Int) u v 3 = impl_MirrorPlan.l1 k (out.set j (negq 4 x)) (j : Int) u v 4 := by
  simp only [impl_MirrorPlan.l1]
  rw [if_pos (by decide), if_pos (by omega), if_pos (by rw [List.length_set]; omega), if_pos (by decide), rd_set54 out j _ hj, Int.toNat_natCast, List.set_set, wn_3]
  rfl
theorem sm_4 (plan out : List S54) (x : S54) (j : Nat) (hj : j < out.length) (k : Nat) : spec_MirrorPlan.l1 (k + 1) plan (out.set j (negq 4 x)) (j : Int) 4 = spec_MirrorPlan.l1 k plan (out.set j (negq 5 x)) (j : Int) 5 := by
  simp only [spec_MirrorPlan.l1]
  rw [if_pos (by decide), if_pos (by omega), if_pos (by rw [List.length_set]; omega), if_pos (by decide), rd_set54 out j _ hj, Int.toNat_natCast, List.set_set, wn_4]
  rfl
theorem im_4 (out : List S54) (x : S54) (j : Nat) (hj : j < out.length) (u v : Int) (k : Nat) : impl_MirrorPlan.l1 (k + 1) (out.set j (negq 4 x)) (j : Int) u v 4 = impl_MirrorPlan.l1 k (out.set j (negq 5 x)) (j : Int) u v 5 := by
  simp only [impl_MirrorPlan.l1]
  rw [if_pos (by decide), if_pos (by omega), if_pos (by rw [List.length_set]; omega), if_pos (by decide), rd_set54 out j _ hj, Int.toNat_natCast, List.set_set, wn_4]
  rfl
theorem sm_5 (plan out : List S54) (x : S54) (j : Nat) (hj : j < out.length) (k : Nat) : spec_MirrorPlan.l1 (k + 1) plan (out.set j (negq 5 x)) (j : Int) 5 = spec_MirrorPlan.l1 k plan (out.set j (negq 6 x)) (j : Int) 6 := by
  simp only [spec_MirrorPlan.l1]
  rw [if_pos (by decide), if_pos (by omega), if_pos (by rw [List.length_set]; omega), if_pos (by decide), rd_set54 out j _ hj, Int.toNat_natCast, List.set_set, wn_5]
  rfl
theorem im_5 (out : List S54) (x : S54) (j : Nat) (hj : j < out.length) (u v : Int) (k : Nat) : impl_MirrorPlan.l1 (k + 1) (out.set j (negq 5 x)) (j : Int) u v 5 = impl_MirrorPlan.l1 k (out.set j (negq 6 x)) (j : Int) u v 6 := by
  simp only [impl_MirrorPlan.l1]
  rw [if_pos (by decide), if_pos (by omega), if_pos (by rw [List.length_set]; omega), if_pos (by decide), rd_set54 out j _ hj, Int.toNat_natCast, List.set_set, wn_5]
  rfl
theorem sm_6 (plan out : List S54) (x : S54) (j : Nat) (hj : j < out.length) (k : Nat) : spec_MirrorPlan.l1 (k + 1) plan (out.set j (negq 6 x)) (j : Int) 6 = spec_MirrorPlan.l1 k plan (out.set j (negq 7 x)) (j : Int) 7 := by
  simp only [spec_MirrorPlan.l1]
  rw [if_pos (by decide), if_pos (by omega), if_pos (by rw [List.length_set]; omega), if_pos (by decide), rd_set54 out j _ hj, Int.toNat_natCast, List.set_set, wn_6]
  rfl
theorem im_6 (out : List S54) (x : S54) (j : Nat) (hj : j < out.length) (u v : Int) (k : Nat) : impl_MirrorPlan.l1 (k + 1) (out.set j (negq 6 x)) (j : Int) u v 6 = impl_MirrorPlan.l1 k (out.set j (negq 7 x)) (j : Int) u v 7 := by
  simp only [impl_MirrorPlan.l1]
  rw [if_pos (by decide), if_pos (by omega), if_pos (by rw [List.length_set]; omega), if_pos (by decide), rd_set54 out j _ hj, Int.toNat_natCast, List.set_set, wn_6]
  rfl
theorem sm_7 (plan out : List S54) (x : S54) (j : Nat) (hj : j < out.length) (k : Nat) : spec_MirrorPlan.l1 (k + 1) plan (out.set j (negq 7 x)) (j : Int) 7 = spec_MirrorPlan.l1 k plan (out.set j (negq 8 x)) (j : Int) 8 := by
  simp only [spec_MirrorPlan.l1]
  rw [if_pos (by decide), if_pos (by omega), if_pos (by rw [List.length_set]; omega), if_pos (by decide), rd_set54 out j _ hj, Int.toNat_natCast, List.set_set, wn_7]
  rfl
theorem im_7 (out : List S54) (x : S54) (j : Nat) (hj : j < out.length) (u v : Int) (k : Nat) : impl_MirrorPlan.l1 (k + 1) (out.set j (negq 7 x)) (j : Int) u v 7 = impl_MirrorPlan.l1 k (out.set j (negq 8 x)) (j : Int) u v 8 := by
  simp only [impl_MirrorPlan.l1]
  rw [if_pos (by decide), if_pos (by omega), if_pos (by rw [List.length_set]; omega), if_pos (by decide), rd_set54 out j _ hj, Int.toNat_natCast, List.set_set, wn_7]
  rfl
theorem sm_8 (plan out : List S54) (x : S54) (j : Nat) (hj : j < out.length) (k : Nat) : spec_MirrorPlan.l1 (k + 1) plan (out.set j (negq 8 x)) (j : Int) 8 = spec_MirrorPlan.l1 k plan (out.set j (negq 9 x)) (j : Int) 9 := by
  simp only [spec_MirrorPlan.l1]
  rw [if_pos (by decide), if_pos (by omega), if_pos (by rw [List.length_set]; omega), if_pos (by decide), rd_set54 out j _ hj, Int.toNat_natCast, List.set_set, wn_8]
  rfl
theorem im_8 (out : List S54) (x : S54) (j : Nat) (hj : j < out.length) (u v : Int) (k : Nat) : impl_MirrorPlan.l1 (k + 1) (out.set j (negq 8 x)) (j : Int) u v 8 = impl_MirrorPlan.l1 k (out.set j (negq 9 x)) (j : Int) u v 9 := by
  simp only [impl_MirrorPlan.l1]
  rw [if_pos (by decide), if_pos (by omega), if_pos (by rw [List.length_set]; omega), if_pos (by decide), rd_set54 out j _ hj, Int.toNat_natCast, List.set_set, wn_8]
  rfl
theorem sm_9 (plan out : List S54) (x : S54) (j : Nat) (hj : j < out.length) (k : Nat) : spec_MirrorPlan.l1 (k + 1) plan (out.set j (negq 9 x)) (j : Int) 9 = spec_MirrorPlan.l1 k plan (out.set j (negq 10 x)) (j : Int) 10 := by
  simp only [spec_MirrorPlan.l1]
  rw [if_pos (by decide), if_pos (by omega), if_pos (by rw [List.length_set]; omega), if_pos (by decide), rd_set54 out j _ hj, Int.toNat_natCast, List.set_set, wn_9]
  rfl
theorem im_9 (out : List S54) (x : S54) (j : Nat) (hj : j < out.length) (u v : Int) (k : Nat) : impl_MirrorPlan.l1 (k + 1) (out.set j (negq 9 x)) (j : Int) u v 9 = impl_MirrorPlan.l1 k (out.set j (negq 10 x)) (j : Int) u v 10 := by
  simp only [impl_MirrorPlan.l1]
  rw [if_pos (by decide), if_pos (by omega), if_pos (by rw [List.length_set]; omega), if_pos (by decide), rd_set54 out j _ hj, Int.toNat_natCast, List.set_set, wn_9]
  rfl
theorem sm_10 (plan out : List S54) (x : S54) (j : Nat) (hj : j < out.length) (k : Nat) : spec_MirrorPlan.l1 (k + 1) plan (out.set j (negq 10 x)) (j : Int) 10 = spec_MirrorPlan.l1 k plan (out.set j (negq 11 x)) (j : Int) 11 := by
  simp only [spec_MirrorPlan.l1]
  rw [if_pos (by decide), if_pos (by omega), if_pos (by rw [List.length_set]; omega), if_pos (by decide), rd_set54 out j _ hj, Int.toNat_natCast, List.set_set, wn_10]
  rfl
theorem im_10 (out : List S54) (x : S54) (j : Nat) (hj : j < out.length) (u v : Int) (k : Nat) : impl_MirrorPlan.l1 (k + 1) (out.set j (negq 10 x)) (j : Int) u v 10 = impl_MirrorPlan.l1 k (out.set j (negq 11 x)) (j : Int) u v 11 := by
  simp only [impl_MirrorPlan.l1]
  rw [if_pos (by decide), if_pos (by omega), if_pos (by rw [List.length_set]; omega), if_pos (by decide), rd_set54 out j _ hj, Int.toNat_natCast, List.set_set, wn_10]
  rfl
theorem sm_11 (plan out : List S54) (x : S54) (j : Nat) (hj : j < out.length) (k : Nat) : spec_MirrorPlan.l1 (k + 1) plan (out.set j (negq 11 x)) (j : Int) 11 = spec_MirrorPlan.l1 k plan (out.set j (negq 12 x)) (j : Int) 12 := by
  simp only [spec_MirrorPlan.l1]
  rw [if_pos (by decide), if_pos (by omega), if_pos (by rw [List.length_set]; omega), if_pos (by decide), rd_set54 out j _ hj, Int.toNat_natCast, List.set_set, wn_11]
  rfl
theorem im_11 (out : List S54) (x : S54) (j : Nat) (hj : j < out.length) (u v : Int) (k : Nat) : impl_MirrorPlan.l1 (k + 1) (out.set j (negq 11 x)) (j : Int) u v 11 = impl_MirrorPlan.l1 k (out.set j (negq 12 x)) (j : Int) u v 12 := by
  simp only [impl_MirrorPlan.l1]
  rw [if_pos (by decide), if_pos (by omega), if_pos (by rw [List.length_set]; omega), if_pos (by decide), rd_set54 out j _ hj, Int.toNat_natCast, List.set_set, wn_11]
  rfl
theorem sm_12 (plan out : List S54) (x : S54) (j : Nat) (hj : j < out.length) (k : Nat) : spec_MirrorPlan.l1 (k + 1) plan (out.set j (negq 12 x)) (j : Int) 12 = spec_MirrorPlan.l1 k plan (out.set j (negq 13 x)) (j : Int) 13 := by
  simp only [spec_MirrorPlan.l1]
  rw [if_pos (by decide), if_pos (by omega), if_pos (by rw [List.length_set]; omega), if_pos (by decide), rd_set54 out j _ hj, Int.toNat_natCast, List.set_set, wn_12]
  rfl
theorem im_12 (out : List S54) (x : S54) (j : Nat) (hj : j < out.length) (u v : Int) (k : Nat) : impl_MirrorPlan.l1 (k + 1) (out.set j (negq 12 x)) (j : Int) u v 12 = impl_MirrorPlan.l1 k (out.set j (negq 13 x)) (j : Int) u v 13 := by
  simp only [impl_MirrorPlan.l1]
  rw [if_pos (by decide), if_pos (by omega), if_pos (by rw [List.length_set]; omega), if_pos (by decide), rd_set54 out j _ hj, Int.toNat_natCast, List.set_set, wn_12]
  rfl
theorem sm_13 (plan out : List S54) (x : S54) (j : Nat) (hj : j < out.length) (k : Nat) : spec_MirrorPlan.l1 (k + 1) plan (out.set j (negq 13 x)) (j : Int) 13 = spec_MirrorPlan.l1 k plan (out.set j (negq 14 x)) (j : Int) 14 := by
  simp only [spec_MirrorPlan.l1]
  rw [if_pos (by decide), if_pos (by omega), if_pos (by rw [List.length_set]; omega), if_pos (by decide), rd_set54 out j _ hj, Int.toNat_natCast, List.set_set, wn_13]
  rfl
theorem im_13 (out : List S54) (x : S54) (j : Nat) (hj : j < out.length) (u v : Int) (k : Nat) : impl_MirrorPlan.l1 (k + 1) (out.set j (negq 13 x)) (j : Int) u v 13 = impl_MirrorPlan.l1 k (out.set j (negq 14 x)) (j : Int) u v 14 := by
  simp only [impl_MirrorPlan.l1]
  rw [if_pos (by decide), if_pos (by omega), if_pos (by rw [List.length_set]; omega), if_pos (by decide), rd_set54 out j _ hj, Int.toNat_natCast, List.set_set, wn_13]
  rfl
theorem spec_inner (plan out : List S54) (j : Nat) (hj : j < out.length) (k : Nat) : spec_MirrorPlan.l1 (k + 14) plan out (j : Int) 0 = spec_MirrorPlan.l1 k plan (out.set j (negq 14 (rd_T54 out (j : Int)))) (j : Int) 14 := by
  have h0 : out.set j (negq 0 (rd_T54 out (j : Int))) = out := set_rd54 out j hj
  conv => lhs; rw [← h0]
  rw [sm_0 plan out (rd_T54 out (j : Int)) j hj, sm_1 plan out (rd_T54 out (j : Int)) j hj, sm_2 plan out (rd_T54 out (j : Int)) j hj, sm_3 plan out (rd_T54 out (j : Int)) j hj, sm_4 plan out (rd_T54 out (j : Int)) j hj, sm_5 plan out (rd_T54 out (j : Int)) j hj, sm_6 plan out (rd_T54 out (j : Int)) j hj, sm_7 plan out (rd_T54 out (j : Int)) j hj, sm_8 plan out (rd_T54 out (j : Int)) j hj, sm_9 plan out (rd_T54 out (j : Int)) j hj, sm_10 plan out (rd_T54 out (j : Int)) j hj, sm_11 plan out (rd_T54 out (j : Int)) j hj, sm_12 plan out (rd_T54 out (j : Int)) j hj, sm_13 plan out (rd_T54 out (j : Int)) j hj]
theorem impl_inner (out : List S54) (j : Nat) (hj : j < out.length) (u v : Int) (k : Nat) : impl_MirrorPlan.l1 (k + 14) out (j : Int) u v 0 = impl_MirrorPlan.l1 k (out.set j (negq 14 (rd_T54 out (j : Int)))) (j : Int) u v 14 := by
  have h0 : out.set j (negq 0 (rd_T54 out (j : Int))) = out := set_rd54 out j hj
  conv => lhs; rw [← h0]
  rw [im_0 out (rd_T54 out (j : Int)) j hj, im_1 out (rd_T54 out (j : Int)) j hj, im_2 out (rd_T54 out (j : Int)) j hj, im_3 out (rd_T54 out (j : Int)) j hj, im_4 out (rd_T54 out (j : Int)) j hj, im_5 out (rd_T54 out (j : Int)) j hj, im_6 out (rd_T54 out (j : Int)) j hj, im_7 out (rd_T54 out (j : Int)) j hj, im_8 out (rd_T54 out (j : Int)) j hj, im_9 out (rd_T54 out (j : Int)) j hj, im_10 out (rd_T54 out (j : Int)) j hj, im_11 out (rd_T54 out (j : Int)) j hj, im_12 out (rd_T54 out (j : Int)) j hj, im_13 out (rd_T54 out (j : Int)) j hj]
theorem mirror_l0 (plan : List S54) (hp : plan.length ≤ 400) : ∀ (d j : Nat) (out : List S54), j + d = plan.length → out.length = plan.length → (∀ i, j ≤ i → out[i]? = plan[i]?) → (∀ i, i < j → out[i]? = (plan.map mir)[i]?) →
    ∀ k, 20 * d + 20 < k → spec_MirrorPlan.l0 k plan out (j : Int) = some (plan.map mir, 0) ∧ impl_MirrorPlan.l0 k out (plan.length : Int) (j : Int) = some (plan.map mir, 0) := by
  intro d
  induction d with
  | zero =>
    intro j out hj hl h1 h2 k hk
    obtain ⟨k, rfl⟩ : ∃ m, k = m + 1 := ⟨k - 1, by omega⟩
    have e : out = plan.map mir := by
      refine List.ext_getElem? fun i => ?_
      by_cases hi : i < j
      · exact h2 i hi
      · rw [List.getElem?_eq_none (by omega), List.getElem?_eq_none (by rw [List.length_map]; omega)]
    subst e
    simp only [spec_MirrorPlan.l0, impl_MirrorPlan.l0]
    rw [if_neg (by rw [List.length_map]; omega), if_neg (by omega)]
    exact ⟨rfl, rfl⟩
  | succ d ih =>
    intro j out hj hl h1 h2 k hk
    obtain ⟨k, rfl⟩ : ∃ m, k = m + 1 + 14 + 1 := ⟨k - 16, by omega⟩
    have hjo : j < out.length := by omega
    have wj : wrap64 ((j : Int) + 1) = ((j + 1 : Nat) : Int) := by unfold wrap64; omega
    have er : rd_T54 out (j : Int) = rd_T54 plan (j : Int) := by rw [rd54_at, rd54_at, List.getD_eq_getElem?_getD, List.getD_eq_getElem?_getD, h1 j (Nat.le_refl j)]
    have step := ih (j + 1) (out.set j (mir (rd_T54 plan (j : Int)))) (by omega) (by rw [List.length_set]; exact hl)
      (fun i hi => by rw [List.getElem?_set_ne (by omega)]; exact h1 i (by omega))
      (fun i hi => by
        by_cases ei : i = j
        · subst ei
          rw [List.getElem?_set_self hjo, List.getElem?_map, rd54_at, List.getD_eq_getElem?_getD, List.getElem?_eq_getElem (show i < plan.length by omega)]
          rfl
        · rw [List.getElem?_set_ne (by omega)]; exact h2 i (by omega)) k (by omega)
    rw [spec_MirrorPlan.l0.eq_2, impl_MirrorPlan.l0.eq_2]
    rw [if_pos (by omega), if_pos (by omega), spec_inner plan out j hjo, impl_inner out j hjo, er, spec_MirrorPlan.l1.eq_2, impl_MirrorPlan.l1.eq_2]
    simp only [Option.bind_some]
    rw [if_neg (by decide), if_pos (by omega), if_pos (by omega), if_pos (by rw [List.length_set]; omega), if_neg (by decide), if_pos (by omega), if_pos (by rw [List.length_set]; omega)]
    simp only [rd_set54 out j _ hjo, Int.toNat_natCast, List.set_set, wj]
    exact step

def mk54 (c : Int) : S54 := ⟨⟨IntKind.i8.wrap (c + 0), IntKind.i8.wrap (c + 1), IntKind.i8.wrap (c + 2), IntKind.i8.wrap (c + 3), IntKind.i8.wrap (c + 4), IntKind.i8.wrap (c + 5), IntKind.i8.wrap (c + 6), IntKind.i8.wrap (c + 7), IntKind.i8.wrap (c + 8), IntKind.i8.wrap (c + 9), IntKind.i8.wrap (c + 10), IntKind.i8.wrap (c + 11), IntKind.i8.wrap (c + 12), IntKind.i8.wrap (c + 13)⟩, ⟨IntKind.i16.wrap (c + 14), IntKind.i16.wrap (c + 15), IntKind.i16.wrap (c + 16)⟩, ⟨IntKind.i8.wrap (c + 17), (Int.tmod (c + 18) 3) == 0⟩, (Int.tmod (c + 19) 3) == 0⟩
def mkq (q : Nat) (c : Int) (x : S54) : S54 := ⟨⟨(if 0 < q then IntKind.i8.wrap (c + 0) else x.f0.f0), (if 1 < q then IntKind.i8.wrap (c + 1) else x.f0.f1), (if 2 < q then IntKind.i8.wrap (c + 2) else x.f0.f2), (if 3 < q then IntKind.i8.wrap (c + 3) else x.f0.f3), (if 4 < q then IntKind.i8.wrap (c + 4) else x.f0.f4), (if 5 < q then IntKind.i8.wrap (c + 5) else x.f0.f5), (if 6 < q then IntKind.i8.wrap (c + 6) else x.f0.f6), (if 7 < q then IntKind.i8.wrap (c + 7) else x.f0.f7), (if 8 < q then IntKind.i8.wrap (c + 8) else x.f0.f8), (if 9 < q then IntKind.i8.wrap (c + 9) else x.f0.f9), (if 10 < q then IntKind.i8.wrap (c + 10) else x.f0.f10), (if 11 < q then IntKind.i8.wrap (c + 11) else x.f0.f11), (if 12 < q then IntKind.i8.wrap (c + 12) else x.f0.f12), (if 13 < q then IntKind.i8.wrap (c + 13) else x.f0.f13)⟩, x.f1, x.f2, x.f3⟩
def nkq (q : Nat) (c : Int) (x : S54) : S54 := ⟨x.f0, ⟨(if 0 < q then IntKind.i16.wrap (c + 14) else x.f1.f0), (if 1 < q then IntKind.i16.wrap (c + 15) else x.f1.f1), (if 2 < q then IntKind.i16.wrap (c + 16) else x.f1.f2)⟩, x.f2, x.f3⟩
theorem mm_0 (out : List S54) (x : S54) (j : Nat) (hj : j < out.length) (c : Int) (hc : 0 ≤ c ∧ c ≤ 100000000) (k : Nat) : laws_markNodeS.l1 (k + 1) (out.set j (mkq 0 c x)) (c + 0) (j : Int) 0 = laws_markNodeS.l1 k (out.set j (mkq 1 c x)) (c + 1) (j : Int) 1 := by
  have hw : wrap64 (c + 0 + 1) = c + 1 := by unfold wrap64; omega
  simp only [laws_markNodeS.l1]
  rw [if_pos (by decide), if_pos (by omega), if_pos (by rw [List.length_set]; omega), if_pos (by decide), rd_set54 out j _ hj, Int.toNat_natCast, List.set_set, wn_0, hw]
  rfl
theorem mm_1 (out : List S54) (x : S54) (j : Nat) (hj : j < out.length) (c : Int) (hc : 0 ≤ c ∧ c ≤ 100000000) (k : Nat) : laws_markNodeS.l1 (k + 1) (out.set j (mkq 1 c x)) (c + 1) (j : Int) 1 = laws_markNodeS.l1 k (out.set j (mkq 2 c x)) (c + 2) (j : Int) 2 := by
  have hw : wrap64 (c + 1 + 1) = c + 2 := by unfold wrap64; omega
  simp only [laws_markNodeS.l1]
  rw [if_pos (by decide), if_pos (by omega), if_pos (by rw [List.length_set]; omega), if_pos (by decide), rd_set54 out j _ hj, Int.toNat_natCast, List.set_set, wn_1, hw]
  rfl
theorem mm_2 (out : List S54) (x : S54) (j : Nat) (hj : j < out.length) (c : Int) (hc : 0 ≤ c ∧ c ≤ 100000000) (k : Nat) : laws_markNodeS.l1 (k + 1) (out.set j (mkq 2 c x)) (c + 2) (j : Int) 2 = laws_markNodeS.l1 k (out.set j (mkq 3 c x)) (c + 3) (j : Int) 3 := by
  have hw : wrap64 (c + 2 + 1) = c + 3 := by unfold wrap64; omega
  simp only [laws_markNodeS.l1]
  rw [if_pos (by decide), if_pos (by omega), if_pos (by rw [List.length_set]; omega), if_pos (by decide), rd_set54 out j _ hj, Int.toNat_natCast, List.set_set, wn_2, hw]
  rfl
theorem mm_3 (out : List S54) (x : S54) (j : Nat) (hj : j < out.length) (c : Int) (hc : 0 ≤ c ∧ c ≤ 100000000) (k : Nat) : laws_markNodeS.l1 (k + 1) (out.set j (mkq 3 c x)) (c + 3) (j : Int) 3 = laws_markNodeS.l1 k (out.set j (mkq 4 c x)) (c + 4) (j : Int) 4 := by
  have hw : wrap64 (c + 3 + 1) = c + 4 := by unfold wrap64; omega
  simp only [laws_markNodeS.l1]
  rw [if_pos (by decide), if_pos (by omega), if_pos (by rw [List.length_set]; omega), if_pos (by decide), rd_set54 out j _ hj, Int.toNat_natCast, List.set_set, wn_3, hw]
  rfl
theorem mm_4 (out : List S54) (x : S54) (j : Nat) (hj : j < out.length) (c : Int) (hc : 0 ≤ c ∧ c ≤ 100000000) (k : Nat) : laws_markNodeS.l1 (k + 1) (out.set j (mkq 4 c x)) (c + 4) (j : Int) 4 = laws_markNodeS.l1 k (out.set j (mkq 5 c x)) (c + 5) (j : Int) 5 := by
  have hw : wrap64 (c + 4 + 1) = c + 5 := by unfold wrap64; omega
  simp only [laws_markNodeS.l1]
  rw [if_pos (by decide), if_pos (by omega), if_pos (by rw [List.length_set]; omega), if_pos (by decide), rd_set54 out j _ hj, Int.toNat_natCast, List.set_set, wn_4, hw]
  rfl
theorem mm_5 (out : List S54) (x : S54) (j : Nat) (hj : j < out.length) (c : Int) (hc : 0 ≤ c ∧ c ≤ 100000000) (k : Nat) : laws_markNodeS.l1 (k + 1) (out.set j (mkq 5 c x)) (c + 5) (j : Int) 5 = laws_markNodeS.l1 k (out.set j (mkq 6 c x)) (c + 6) (j : Int) 6 := by
  have hw : wrap64 (c + 5 + 1) = c + 6 := by unfold wrap64; omega
  simp only [laws_markNodeS.l1]
  rw [if_pos (by decide), if_pos (by omega), if_pos (by rw [List.length_set]; omega), if_pos (by decide), rd_set54 out j _ hj, Int.toNat_natCast, List.set_set, wn_5, hw]
  rfl
theorem mm_6 (out : List S54) (x : S54) (j : Nat) (hj : j < out.length) (c : Int) (hc : 0 ≤ c ∧ c ≤ 100000000) (k : Nat) : laws_markNodeS.l1 (k + 1) (out.set j (mkq 6 c x)) (c + 6) (j : Int) 6 = laws_markNodeS.l1 k (out.set j (mkq 7 c x)) (c + 7) (j : Int) 7 := by
  have hw : wrap64 (c + 6 + 1) = c + 7 := by unfold wrap64; omega
  simp only [laws_markNodeS.l1]
  rw [if_pos (by decide), if_pos (by omega), if_pos (by rw [List.length_set]; omega), if_pos (by decide), rd_set54 out j _ hj, Int.toNat_natCast, List.set_set, wn_6, hw]
  rfl
theorem mm_7 (out : List S54) (x : S54) (j : Nat) (hj : j < out.length) (c : Int) (hc : 0 ≤ c ∧ c ≤ 100000000) (k : Nat) : laws_markNodeS.l1 (k + 1) (out.set j (mkq 7 c x)) (c + 7) (j : Int) 7 = laws_markNodeS.l1 k (out.set j (mkq 8 c x)) (c + 8) (j : Int) 8 := by
  have hw : wrap64 (c + 7 + 1) = c + 8 := by unfold wrap64; omega
  simp only [laws_markNodeS.l1]
  rw [if_pos (by decide), if_pos (by omega), if_pos (by rw [List.length_set]; omega), if_pos (by decide), rd_set54 out j _ hj, Int.toNat_natCast, List.set_set, wn_7, hw]
  rfl
theorem mm_8 (out : List S54) (x : S54) (j : Nat) (hj : j < out.length) (c : Int) (hc : 0 ≤ c ∧ c ≤ 100000000) (k : Nat) : laws_markNodeS.l1 (k + 1) (out.set j (mkq 8 c x)) (c + 8) (j : Int) 8 = laws_markNodeS.l1 k (out.set j (mkq 9 c x)) (c + 9) (j : Int) 9 := by
  have hw : wrap64 (c + 8 + 1) = c + 9 := by unfold wrap64; omega
  simp only [laws_markNodeS.l1]
  rw [if_pos (by decide), if_pos (by omega), if_pos (by rw [List.length_set]; omega), if_pos (by decide), rd_set54 out j _ hj, Int.toNat_natCast, List.set_set, wn_8, hw]
  rfl
theorem mm_9 (out : List S54) (x : S54) (j : Nat) (hj : j < out.length) (c : Int) (hc : 0 ≤ c ∧ c ≤ 100000000) (k : Nat) : laws_markNodeS.l1 (k + 1) (out.set j (mkq 9 c x)) (c + 9) (j : Int) 9 = laws_markNodeS.l1 k (out.set j (mkq 10 c x)) (c + 10) (j : Int) 10 := by
  have hw : wrap64 (c + 9 + 1) = c + 10 := by unfold wrap64; omega
  simp only [laws_markNodeS.l1]
  rw [if_pos (by decide), if_pos (by omega), if_pos (by rw [List.length_set]; omega), if_pos (by decide), rd_set54 out j _ hj, Int.toNat_natCast, List.set_set, wn_9, hw]
  rfl
theorem mm_10 (out : List S54) (x : S54) (j : Nat) (hj : j < out.length) (c : Int) (hc : 0 ≤ c ∧ c ≤ 100000000) (k : Nat) : laws_markNodeS.l1 (k + 1) (out.set j (mkq 10 c x)) (c + 10) (j : Int) 10 = laws_markNodeS.l1 k (out.set j (mkq 11 c x)) (c + 11) (j : Int) 11 := by
  have hw : wrap64 (c + 10 + 1) = c + 11 := by unfold wrap64; omega
  simp only [laws_markNodeS.l1]
  rw [if_pos (by decide), if_pos (by omega), if_pos (by rw [List.length_set]; omega), if_pos (by decide), rd_set54 out j _ hj, Int.toNat_natCast, List.set_set, wn_10, hw]
  rfl
theorem mm_11 (out : List S54) (x : S54) (j : Nat) (hj : j < out.length) (c : Int) (hc : 0 ≤ c ∧ c ≤ 100000000) (k : Nat) : laws_markNodeS.l1 (k + 1) (out.set j (mkq 11 c x)) (c + 11) (j : Int) 11 = laws_markNodeS.l1 k (out.set j (mkq 12 c x)) (c + 12) (j : Int) 12 := by
  have hw : wrap64 (c + 11 + 1) = c + 12 := by unfold wrap64; omega
  simp only [laws_markNodeS.l1]
  rw [if_pos (by decide), if_pos (by omega), if_pos (by rw [List.length_set]; omega), if_pos (by decide), rd_set54 out j _ hj, Int.toNat_natCast, List.set_set, wn_11, hw]
  rfl
theorem mm_12 (out : List S54) (x : S54) (j : Nat) (hj : j < out.length) (c : Int) (hc : 0 ≤ c ∧ c ≤ 100000000) (k : Nat) : laws_markNodeS.l1 (k + 1) (out.set j (mkq 12 c x)) (c + 12) (j : Int) 12 = laws_markNodeS.l1 k (out.set j (mkq 13 c x)) (c + 13) (j : Int) 13 := by
  have hw : wrap64 (c + 12 + 1) = c + 13 := by unfold wrap64; omega
  simp only [laws_markNodeS.l1]
  rw [if_pos (by decide), if_pos (by omega), if_pos (by rw [List.length_set]; omega), if_pos (by decide), rd_set54 out j _ hj, Int.toNat_natCast, List.set_set, wn_12, hw]
  rfl
theorem mm_13 (out : List S54) (x : S54) (j : Nat) (hj : j < out.length) (c : Int) (hc : 0 ≤ c ∧ c ≤ 100000000) (k : Nat) : laws_markNodeS.l1 (k + 1) (out.set j (mkq 13 c x)) (c + 13) (j : Int) 13 = laws_markNodeS.l1 k (out.set j (mkq 14 c x)) (c + 14) (j : Int) 14 := by
  have hw : wrap64 (c + 13 + 1) = c + 14 := by unfold wrap64; omega
  simp only [laws_markNodeS.l1]
  rw [if_pos (by decide), if_pos (by omega), if_pos (by rw [List.length_set]; omega), if_pos (by decide), rd_set54 out j _ hj, Int.toNat_natCast, List.set_set, wn_13, hw]
  rfl
theorem nm_0 (out : List S54) (x : S54) (j : Nat) (hj : j < out.length) (c : Int) (hc : 0 ≤ c ∧ c ≤ 100000000) (k : Nat) : laws_markNodeS.l2 (k + 1) (out.set j (nkq 0 c x)) (c + 14) (j : Int) 0 = laws_markNodeS.l2 k (out.set j (nkq 1 c x)) (c + 15) (j : Int) 1 := by
  have hw : wrap64 (c + 14 + 1) = c + 15 := by unfold wrap64; omega
  simp only [laws_markNodeS.l2]
  rw [if_pos (by decide), if_pos (by omega), if_pos (by rw [List.length_set]; omega), if_pos (by decide), rd_set54 out j _ hj, Int.toNat_natCast, List.set_set, wn_0, hw]
  rfl
theorem nm_1 (out : List S54) (x : S54) (j : Nat) (hj : j < out.length) (c : Int) (hc : 0 ≤ c ∧ c ≤ 100000000) (k : Nat) : laws_markNodeS.l2 (k + 1) (out.set j (nkq 1 c x)) (c + 15) (j : Int) 1 = laws_markNodeS.l2 k (out.set j (nkq 2 c x)) (c + 16) (j : Int) 2 := by
  have hw : wrap64 (c + 15 + 1) = c + 16 := by unfold wrap64; omega
  simp only [laws_markNodeS.l2]
  rw [if_pos (by decide), if_pos (by omega), if_pos (by rw [List.length_set]; omega), if_pos (by decide), rd_set54 out j _ hj, Int.toNat_natCast, List.set_set, wn_1, hw]
  rfl
theorem nm_2 (out : List S54) (x : S54) (j : Nat) (hj : j < out.length) (c : Int) (hc : 0 ≤ c ∧ c ≤ 100000000) (k : Nat) : laws_markNodeS.l2 (k + 1) (out.set j (nkq 2 c x)) (c + 16) (j : Int) 2 = laws_markNodeS.l2 k (out.set j (nkq 3 c x)) (c + 17) (j : Int) 3 := by
  have hw : wrap64 (c + 16 + 1) = c + 17 := by unfold wrap64; omega
  simp only [laws_markNodeS.l2]
  rw [if_pos (by decide), if_pos (by omega), if_pos (by rw [List.length_set]; omega), if_pos (by decide), rd_set54 out j _ hj, Int.toNat_natCast, List.set_set, wn_2, hw]
  rfl
theorem mark_round (out : List S54) (j : Nat) (hj : j < out.length) (hj2 : j ≤ 10000000) (c : Int) (hc : 0 ≤ c ∧ c ≤ 100000000) (k : Nat) : laws_markNodeS.l1 (k + 19) out c (j : Int) 0 = laws_markNodeS.l0 k (out.set j (mk54 c)) (c + 20) ((j + 1 : Nat) : Int) := by
  have h0 : out.set j (mkq 0 c (rd_T54 out (j : Int))) = out := set_rd54 out j hj
  have e : laws_markNodeS.l1 (k + 19) out c (j : Int) 0 = laws_markNodeS.l1 (k + 19) (out.set j (mkq 0 c (rd_T54 out (j : Int)))) (c + 0) (j : Int) 0 := by rw [h0, Int.add_zero]
  have wj : wrap64 ((j : Int) + 1) = ((j + 1 : Nat) : Int) := by unfold wrap64; omega
  have w18 : wrap64 (c + 17 + 1) = c + 18 := by unfold wrap64; omega
  have w19 : wrap64 (c + 18 + 1) = c + 19 := by unfold wrap64; omega
  have w20 : wrap64 (c + 19 + 1) = c + 20 := by unfold wrap64; omega
  rw [e, mm_0 out (rd_T54 out (j : Int)) j hj c hc, mm_1 out (rd_T54 out (j : Int)) j hj c hc, mm_2 out (rd_T54 out (j : Int)) j hj c hc, mm_3 out (rd_T54 out (j : Int)) j hj c hc, mm_4 out (rd_T54 out (j : Int)) j hj c hc, mm_5 out (rd_T54 out (j : Int)) j hj c hc, mm_6 out (rd_T54 out (j : Int)) j hj c hc, mm_7 out (rd_T54 out (j : Int)) j hj c hc, mm_8 out (rd_T54 out (j : Int)) j hj c hc, mm_9 out (rd_T54 out (j : Int)) j hj c hc, mm_10 out (rd_T54 out (j : Int)) j hj c hc, mm_11 out (rd_T54 out (j : Int)) j hj c hc, mm_12 out (rd_T54 out (j : Int)) j hj c hc, mm_13 out (rd_T54 out (j : Int)) j hj c hc]
  rw [laws_markNodeS.l1.eq_2, if_neg (by decide)]
  show laws_markNodeS.l2 (k + 4) (out.set j (nkq 0 c (mkq 14 c (rd_T54 out (j : Int))))) (c + 14) (j : Int) 0 = _
  rw [nm_0 out (mkq 14 c (rd_T54 out (j : Int))) j hj c hc, nm_1 out (mkq 14 c (rd_T54 out (j : Int))) j hj c hc, nm_2 out (mkq 14 c (rd_T54 out (j : Int))) j hj c hc]
  rw [laws_markNodeS.l2.eq_2, if_neg (by decide), if_pos (by omega), if_pos (by rw [List.length_set]; omega)]
  simp only [Option.bind_some, rd_set54 out j _ hj, Int.toNat_natCast, List.set_set, wj, w18, w19, w20]
  rfl
def mks (n : Nat) : List S54 := (List.range n).map fun i : Nat => mk54 (1 + 20 * (i : Int))
theorem mks_length (n : Nat) : (mks n).length = n := by simp [mks]
theorem mks_at (n i : Nat) (h : i < n) : (mks n)[i]? = some (mk54 (1 + 20 * (i : Int))) := by simp [mks, h]
theorem mark_l0 (n : Nat) (hn : n ≤ 1048576) : ∀ (d j : Nat) (out : List S54), j + d = n → out.length = n → (∀ i, i < j → out[i]? = (mks n)[i]?) → ∀ k, 22 * d + 5 < k → laws_markNodeS.l0 k out (1 + 20 * (j : Int)) (j : Int) = some (1 + 20 * (n : Int), mks n) := by
  intro d
  induction d with
  | zero =>
    intro j out hj hl h2 k hk
    obtain ⟨k, rfl⟩ : ∃ m, k = m + 1 := ⟨k - 1, by omega⟩
    have e : out = mks n := by
      refine List.ext_getElem? fun i => ?_
      by_cases hi : i < j
      · exact h2 i hi
      · rw [List.getElem?_eq_none (by omega), List.getElem?_eq_none (by rw [mks_length]; omega)]
    have ej : (j : Int) = n := by omega
    subst e
    simp only [laws_markNodeS.l0]
    rw [if_neg (by omega), ej]
  | succ d ih =>
    intro j out hj hl h2 k hk
    obtain ⟨k, rfl⟩ : ∃ m, k = m + 19 + 1 := ⟨k - 20, by omega⟩
    have hjo : j < out.length := by omega
    have ec : (1 + 20 * (j : Int)) + 20 = 1 + 20 * ((j + 1 : Nat) : Int) := by omega
    rw [laws_markNodeS.l0.eq_2, if_pos (by omega), mark_round out j hjo (by omega) _ (by omega) k, ec]
    refine ih (j + 1) _ (by omega) (by rw [List.length_set]; exact hl) (fun i hi => ?_) k (by omega)
    by_cases ei : i = j
    · subst ei; rw [List.getElem?_set_self hjo, mks_at n i (by omega)]
    · rw [List.getElem?_set_ne (by omega)]; exact h2 i (by omega)
theorem mark_f (l : List S54) (hl : l.length ≤ 1048576) (k : Nat) (hk : 22 * l.length + 5 < k) : laws_markNodeS.f k l 1 = some (1 + 20 * (l.length : Int), mks l.length) :=
  mark_l0 l.length hl l.length 0 l (by omega) rfl (fun i h => absurd h (by omega)) k hk
theorem hm_0 (l : List S54) (j : Nat) (hj : j < l.length) (c : Int) (hc : 0 ≤ c ∧ c ≤ 100000000) (hx : rd_T54 l (j : Int) = mk54 c) (k : Nat) : laws_heldNodeS.l1 (k + 1) l (c + 0) (j : Int) 0 = laws_heldNodeS.l1 k l (c + 1) (j : Int) 1 := by
  have hw : wrap64 (c + 0 + 1) = c + 1 := by unfold wrap64; omega
  simp only [laws_heldNodeS.l1]
  rw [if_pos (by decide), if_pos (by omega), if_pos (by omega), if_pos (by decide), hx, wn_0, hw]
  exact if_pos rfl
theorem hm_1 (l : List S54) (j : Nat) (hj : j < l.length) (c : Int) (hc : 0 ≤ c ∧ c ≤ 100000000) (hx : rd_T54 l (j : Int) = mk54 c) (k : Nat) : laws_heldNodeS.l1 (k + 1) l (c + 1) (j : Int) 1 = laws_heldNodeS.l1 k l (c + 2) (j : Int) 2 := by
  have hw : wrap64 (c + 1 + 1) = c + 2 := by unfold wrap64; omega
  simp only [laws_heldNodeS.l1]
  rw [if_pos (by decide), if_pos (by omega), if_pos (by omega), if_pos (by decide), hx, wn_1, hw]
  exact if_pos rfl
theorem hm_2 (l : List S54) (j : Nat) (hj : j < l.length) (c : Int) (hc : 0 ≤ c ∧ c ≤ 100000000) (hx : rd_T54 l (j : Int) = mk54 c) (k : Nat) : laws_heldNodeS.l1 (k + 1) l (c + 2) (j : Int) 2 = laws_heldNodeS.l1 k l (c + 3) (j : Int) 3 := by
  have hw : wrap64 (c + 2 + 1) = c + 3 := by unfold wrap64; omega
  simp only [laws_heldNodeS.l1]
  rw [if_pos (by decide), if_pos (by omega), if_pos (by omega), if_pos (by decide), hx, wn_2, hw]
  exact if_pos rfl
theorem hm_3 (l : List S54) (j : Nat) (hj : j < l.length) (c : Int) (hc : 0 ≤ c ∧ c ≤ 100000000) (hx : rd_T54 l (j : Int) = mk54 c) (k : Nat) : laws_heldNodeS.l1 (k + 1) l (c + 3) (j : Int) 3 = laws_heldNodeS.l1 k l (c + 4) (j : Int) 4 := by
  have hw : wrap64 (c + 3 + 1) = c + 4 := by unfold wrap64; omega
  simp only [laws_heldNodeS.l1]
  rw [if_pos (by decide), if_pos (by omega), if_pos (by omega), if_pos (by decide), hx, wn_3, hw]
  exact if_pos rfl
theorem hm_4 (l : List S54) (j : Nat) (hj : j < l.length) (c : Int) (hc : 0 ≤ c ∧ c ≤ 100000000) (hx : rd_T54 l (j : Int) = mk54 c) (k : Nat) : laws_heldNodeS.l1 (k + 1) l (c + 4) (j : Int) 4 = laws_heldNodeS.l1 k l (c + 5) (j : Int) 5 := by
  have hw : wrap64 (c + 4 + 1) = c + 5 := by unfold wrap64; omega
  simp only [laws_heldNodeS.l1]
  rw [if_pos (by decide), if_pos (by omega), if_pos (by omega), if_pos (by decide), hx, wn_4, hw]
  exact if_pos rfl
theorem hm_5 (l : List S54) (j : Nat) (hj : j < l.length) (c : Int) (hc : 0 ≤ c ∧ c ≤ 100000000) (hx : rd_T54 l (j : Int) = mk54 c) (k : Nat) : laws_heldNodeS.l1 (k + 1) l (c + 5) (j : Int) 5 = laws_heldNodeS.l1 k l (c + 6) (j : Int) 6 := by
  have hw : wrap64 (c + 5 + 1) = c + 6 := by unfold wrap64; omega
  simp only [laws_heldNodeS.l1]
  rw [if_pos (by decide), if_pos (by omega), if_pos (by omega), if_pos (by decide), hx, wn_5, hw]
  exact if_pos rfl
theorem hm_6 (l : List S54) (j : Nat) (hj : j < l.length) (c : Int) (hc : 0 ≤ c ∧ c ≤ 100000000) (hx : rd_T54 l (j : Int) = mk54 c) (k : Nat) : laws_heldNodeS.l1 (k + 1) l (c + 6) (j : Int) 6 = laws_heldNodeS.l1 k l (c + 7) (j : Int) 7 := by
  have hw : wrap64 (c + 6 + 1) = c + 7 := by unfold wrap64; omega
  simp only [laws_heldNodeS.l1]
  rw [if_pos (by decide), if_pos (by omega), if_pos (by omega), if_pos (by decide), hx, wn_6, hw]
  exact if_pos rfl
theorem hm_7 (l : List S54) (j : Nat) (hj : j < l.length) (c : Int) (hc : 0 ≤ c ∧ c ≤ 100000000) (hx : rd_T54 l (j : Int) = mk54 c) (k : Nat) : laws_heldNodeS.l1 (k + 1) l (c + 7) (j : Int) 7 = laws_heldNodeS.l1 k l (c + 8) (j : Int) 8 := by
  have hw : wrap64 (c + 7 + 1) = c + 8 := by unfold wrap64; omega
  simp only [laws_heldNodeS.l1]
  rw [if_pos (by decide), if_pos (by omega), if_pos (by omega), if_pos (by decide), hx, wn_7, hw]
  exact if_pos rfl
theorem hm_8 (l : List S54) (j : Nat) (hj : j < l.length) (c : Int) (hc : 0 ≤ c ∧ c ≤ 100000000) (hx : rd_T54 l (j : Int) = mk54 c) (k : Nat) : laws_heldNodeS.l1 (k + 1) l (c + 8) (j : Int) 8 = laws_heldNodeS.l1 k l (c + 9) (j : Int) 9 := by
  have hw : wrap64 (c + 8 + 1) = c + 9 := by unfold wrap64; omega
  simp only [laws_heldNodeS.l1]
  rw [if_pos (by decide), if_pos (by omega), if_pos (by omega), if_pos (by decide), hx, wn_8, hw]
  exact if_pos rfl
theorem hm_9 (l : List S54) (j : Nat) (hj : j < l.length) (c : Int) (hc : 0 ≤ c ∧ c ≤ 100000000) (hx : rd_T54 l (j : Int) = mk54 c) (k : Nat) : laws_heldNodeS.l1 (k + 1) l (c + 9) (j : Int) 9 = laws_heldNodeS.l1 k l (c + 10) (j : Int) 10 := by
  have hw : wrap64 (c + 9 + 1) = c + 10 := by unfold wrap64; omega
  simp only [laws_heldNodeS.l1]
  rw [if_pos (by decide), if_pos (by omega), if_pos (by omega), if_pos (by decide), hx, wn_9, hw]
  exact if_pos rfl
theorem hm_10 (l : List S54) (j : Nat) (hj : j < l.length) (c : Int) (hc : 0 ≤ c ∧ c ≤ 100000000) (hx : rd_T54 l (j : Int) = mk54 c) (k : Nat) : laws_heldNodeS.l1 (k + 1) l (c + 10) (j : Int) 10 = laws_heldNodeS.l1 k l (c + 11) (j : Int) 11 := by
  have hw : wrap64 (c + 10 + 1) = c + 11 := by unfold wrap64; omega
  simp only [laws_heldNodeS.l1]
  rw [if_pos (by decide), if_pos (by omega), if_pos (by omega), if_pos (by decide), hx, wn_10, hw]
  exact if_pos rfl
theorem hm_11 (l : List S54) (j : Nat) (hj : j < l.length) (c : Int) (hc : 0 ≤ c ∧ c ≤ 100000000) (hx : rd_T54 l (j : Int) = mk54 c) (k : Nat) : laws_heldNodeS.l1 (k + 1) l (c + 11) (j : Int) 11 = laws_heldNodeS.l1 k l (c + 12) (j : Int) 12 := by
  have hw : wrap64 (c + 11 + 1) = c + 12 := by unfold wrap64; omega
  simp only [laws_heldNodeS.l1]
  rw [if_pos (by decide), if_pos (by omega), if_pos (by omega), if_pos (by decide), hx, wn_11, hw]
  exact if_pos rfl
theorem hm_12 (l : List S54) (j : Nat) (hj : j < l.length) (c : Int) (hc : 0 ≤ c ∧ c ≤ 100000000) (hx : rd_T54 l (j : Int) = mk54 c) (k : Nat) : laws_heldNodeS.l1 (k + 1) l (c + 12) (j : Int) 12 = laws_heldNodeS.l1 k l (c + 13) (j : Int) 13 := by
  have hw : wrap64 (c + 12 + 1) = c + 13 := by unfold wrap64; omega
  simp only [laws_heldNodeS.l1]
  rw [if_pos (by decide), if_pos (by omega), if_pos (by omega), if_pos (by decide), hx, wn_12, hw]
  exact if_pos rfl
theorem hm_13 (l : List S54) (j : Nat) (hj : j < l.length) (c : Int) (hc : 0 ≤ c ∧ c ≤ 100000000) (hx : rd_T54 l (j : Int) = mk54 c) (k : Nat) : laws_heldNodeS.l1 (k + 1) l (c + 13) (j : Int) 13 = laws_heldNodeS.l1 k l (c + 14) (j : Int) 14 := by
  have hw : wrap64 (c + 13 + 1) = c + 14 := by unfold wrap64; omega
  simp only [laws_heldNodeS.l1]
  rw [if_pos (by decide), if_pos (by omega), if_pos (by omega), if_pos (by decide), hx, wn_13, hw]
  exact if_pos rfl
theorem hn_0 (l : List S54) (j : Nat) (hj : j < l.length) (c : Int) (hc : 0 ≤ c ∧ c ≤ 100000000) (hx : rd_T54 l (j : Int) = mk54 c) (k : Nat) : laws_heldNodeS.l2 (k + 1) l (c + 14) (j : Int) 0 = laws_heldNodeS.l2 k l (c + 15) (j : Int) 1 := by
  have hw : wrap64 (c + 14 + 1) = c + 15 := by unfold wrap64; omega
  simp only [laws_heldNodeS.l2]
  rw [if_pos (by decide), if_pos (by omega), if_pos (by omega), if_pos (by decide), hx, wn_0, hw]
  exact if_pos rfl
theorem hn_1 (l : List S54) (j : Nat) (hj : j < l.length) (c : Int) (hc : 0 ≤ c ∧ c ≤ 100000000) (hx : rd_T54 l (j : Int) = mk54 c) (k : Nat) : laws_heldNodeS.l2 (k + 1) l (c + 15) (j : Int) 1 = laws_heldNodeS.l2 k l (c + 16) (j : Int) 2 := by
  have hw : wrap64 (c + 15 + 1) = c + 16 := by unfold wrap64; omega
  simp only [laws_heldNodeS.l2]
  rw [if_pos (by decide), if_pos (by omega), if_pos (by omega), if_pos (by decide), hx, wn_1, hw]
  exact if_pos rfl
theorem hn_2 (l : List S54) (j : Nat) (hj : j < l.length) (c : Int) (hc : 0 ≤ c ∧ c ≤ 100000000) (hx : rd_T54 l (j : Int) = mk54 c) (k : Nat) : laws_heldNodeS.l2 (k + 1) l (c + 16) (j : Int) 2 = laws_heldNodeS.l2 k l (c + 17) (j : Int) 3 := by
  have hw : wrap64 (c + 16 + 1) = c + 17 := by unfold wrap64; omega
  simp only [laws_heldNodeS.l2]
  rw [if_pos (by decide), if_pos (by omega), if_pos (by omega), if_pos (by decide), hx, wn_2, hw]
  exact if_pos rfl
theorem held_round (l : List S54) (j : Nat) (hj : j < l.length) (hj2 : j ≤ 10000000) (c : Int) (hc : 0 ≤ c ∧ c ≤ 100000000) (hx : rd_T54 l (j : Int) = mk54 c) (k : Nat) : laws_heldNodeS.l1 (k + 19) l c (j : Int) 0 = laws_heldNodeS.l0 k l (c + 20) ((j + 1 : Nat) : Int) := by
  have e : laws_heldNodeS.l1 (k + 19) l c (j : Int) 0 = laws_heldNodeS.l1 (k + 19) l (c + 0) (j : Int) 0 := by rw [Int.add_zero]
  have wj : wrap64 ((j : Int) + 1) = ((j + 1 : Nat) : Int) := by unfold wrap64; omega
  have w18 : wrap64 (c + 17 + 1) = c + 18 := by unfold wrap64; omega
  have w19 : wrap64 (c + 18 + 1) = c + 19 := by unfold wrap64; omega
  have w20 : wrap64 (c + 19 + 1) = c + 20 := by unfold wrap64; omega
  rw [e, hm_0 l j hj c hc hx, hm_1 l j hj c hc hx, hm_2 l j hj c hc hx, hm_3 l j hj c hc hx, hm_4 l j hj c hc hx, hm_5 l j hj c hc hx, hm_6 l j hj c hc hx, hm_7 l j hj c hc hx, hm_8 l j hj c hc hx, hm_9 l j hj c hc hx, hm_10 l j hj c hc hx, hm_11 l j hj c hc hx, hm_12 l j hj c hc hx, hm_13 l j hj c hc hx]
  rw [laws_heldNodeS.l1.eq_2, if_neg (by decide)]
  rw [hn_0 l j hj c hc hx, hn_1 l j hj c hc hx, hn_2 l j hj c hc hx]
  rw [laws_heldNodeS.l2.eq_2, if_neg (by decide), if_pos (by omega), if_pos (by omega), hx, w18, w19, w20, wj]
  show (if IntKind.i8.wrap (c + 17) = IntKind.i8.wrap (c + 17) then (if ((Int.tmod (c + 18) 3 == 0) != (Int.tmod (c + 18) 3 == 0)) = true then some (-1) else (if ((Int.tmod (c + 19) 3 == 0) != (Int.tmod (c + 19) 3 == 0)) = true then some (-1) else laws_heldNodeS.l0 k l (c + 20) ((j + 1 : Nat) : Int))) else some (-1)) = _
  rw [if_pos rfl, bne_self_eq_false, bne_self_eq_false, if_neg (by decide), if_neg (by decide)]
theorem held_l0 (n : Nat) (hn : n ≤ 1048576) : ∀ (d j : Nat), j + d = n → ∀ k, 22 * d + 5 < k → laws_heldNodeS.l0 k (mks n) (1 + 20 * (j : Int)) (j : Int) = some (1 + 20 * (n : Int)) := by
  intro d
  induction d with
  | zero =>
    intro j hj k hk
    obtain ⟨k, rfl⟩ : ∃ m, k = m + 1 := ⟨k - 1, by omega⟩
    have ej : (j : Int) = n := by omega
    simp only [laws_heldNodeS.l0]
    rw [if_neg (by rw [mks_length]; omega), ej]
  | succ d ih =>
    intro j hj k hk
    obtain ⟨k, rfl⟩ : ∃ m, k = m + 19 + 1 := ⟨k - 20, by omega⟩
    have hjo : j < (mks n).length := by rw [mks_length]; omega
    have hx : rd_T54 (mks n) (j : Int) = mk54 (1 + 20 * (j : Int)) := by rw [rd54_at, List.getD_eq_getElem?_getD, mks_at n j (by omega)]; rfl
    have ec : (1 + 20 * (j : Int)) + 20 = 1 + 20 * ((j + 1 : Nat) : Int) := by omega
    rw [laws_heldNodeS.l0.eq_2, if_pos (by rw [mks_length]; omega), held_round (mks n) j hjo (by omega) _ (by omega) hx k, ec]
    exact ih (j + 1) (by omega) k (by omega)
theorem held_f (n : Nat) (hn : n ≤ 1048576) (k : Nat) (hk : 22 * n + 5 < k) : laws_heldNodeS.f k (mks n) 1 = some (1 + 20 * (n : Int)) :=
  held_l0 n hn n 0 (by omega) k hk
theorem mirror_f (plan : List S54) (hw : ∀ x ∈ plan, Next16 x) (hlen : plan.length ≤ 1048576) (c kd : Int) (n g : Bool) (hc : -128 ≤ c ∧ c ≤ 127) (hk : -128 ≤ kd ∧ kd ≤ 127) :
    ∃ v, v.1.length ≤ 400 ∧ ∀ k, 9000 < k → spec_MirrorPlan.f k c kd n g plan = some v ∧ impl_MirrorPlan.f k c kd n g plan = some v := by
  obtain ⟨v, hv, hg⟩ := plan_f plan hw hlen c kd n g hc hk
  cases v with
  | false =>
    refine ⟨([], 1), by simp, fun k hk => ?_⟩
    unfold spec_MirrorPlan.f impl_MirrorPlan.f
    rw [(hv k (by omega)).1, (hv k (by omega)).2]
    exact ⟨rfl, rfl⟩
  | true =>
    obtain ⟨c1, c2, l1, l2, gn⟩ := hg rfl
    refine ⟨(plan.map mir, 0), by simpa using l2, fun k hk => ?_⟩
    obtain ⟨e1, e2⟩ := mirror_l0 plan l2 plan.length 0 plan (by omega) rfl (fun i _ => rfl) (fun i h => absurd h (by omega)) k (by omega)
    unfold spec_MirrorPlan.f impl_MirrorPlan.f impl_Node_36.f
    rw [(hv k (by omega)).1, (hv k (by omega)).2]
    simp only [Option.bind_some, if_true, List.nil_append, List.length_nil, Nat.zero_add]
    rw [if_pos (by omega), if_pos (by omega)]
    exact ⟨e1, e2⟩

end Go.Proofs.Ytmmonhpjjjdnjaa.Y
