/- Proved: the program's IsCover answers as the reference's for every ferry and set, and leaves the ferry as it was. No conditions. -/
import Derived.Test.YtikdnhhegknplaaLFSafe
import Derived.Test.YtikdnhhegknplaaSFnExactIsCover
namespace Go.Proofs.Ytikdnhhegknplaa.Pure
open Go.RowKit Go.Proofs.Ytikdnhhegknplaa.M Go.Proofs.YtikdnhhegknplaaW.PrintWords Go.Proofs.YtikdnhhegknplaaW.PrintLast Go.Proofs.YtikdnhhegknplaaW.PrintMore
set_option linter.unusedVariables false
set_option linter.unusedSimpArgs false

theorem asked_f {a b : Int} {l : List Int} (t : Int) (hl : ∀ x ∈ l, (Lit.int .u16 x).wf = true) (ha : -128 ≤ a ∧ a ≤ 127) (hb : -128 ≤ b ∧ b ≤ 127) (hn : l.length ≤ 1048576) (k : Nat) (hk : 50 < k) :
    spec_l05Asked.f k a b l t = some (if okF a b l = true then (if inn t (full a) = true then 0 else 2) else 1) := by
  unfold spec_l05Asked.f
  rw [specOk_f hl ha hb hn k hk]
  simp only [Option.bind_some]
  by_cases o : okF a b l = true
  · rw [if_pos o, if_pos o, specAll_f (okF_small o).1 (okF_small o).2.1]
    simp only [Option.bind_some]
    unfold inn
    by_cases q : Go.bits .andNot .u16 t (full a) = 0
    · rw [if_pos q, if_pos (by simpa using q)]
    · rw [if_neg q, if_neg (by simpa using q)]
  · rw [if_neg o, if_neg o]
theorem setCode_f {a b : Int} {l : List Int} (t : Int) (hl : ∀ x ∈ l, (Lit.int .u16 x).wf = true) (ha : -128 ≤ a ∧ a ≤ 127) (hb : -128 ≤ b ∧ b ≤ 127) (hn : l.length ≤ 1048576) (k : Nat) (hk : 50 < k) :
    impl_setCode.f k a b l t = some (if okF a b l = true then (if inn t (full a) = true then 0 else 2) else 1) := by
  unfold impl_setCode.f
  rw [implOk_f hl ha hb hn k hk]
  simp only [Option.bind_some]
  by_cases o : okF a b l = true
  · rw [if_pos o, if_pos o, implAll_f (okF_small o).1 (okF_small o).2.1]
    simp only [Option.bind_some]
    unfold inn impl_inside.f impl_unless.f
    simp only [Option.bind_some]
    by_cases q : Go.bits .andNot .u16 t (full a) = 0
    · rw [if_pos (by simpa using q), if_pos (by simpa using q)]; rfl
    · rw [if_neg (by simpa using q), if_neg (by simpa using q)]; rfl
  · rw [if_neg o, if_neg o]
def answer (a b : Int) (l : List Int) (t : Int) : Bool × Int :=
  if okF a b l = true then (if inn t (full a) = true then (safe l ((Go.bits .andNot .u16 (full a) t)), 0) else (false, 2)) else (false, 1)
theorem spec_f {a b : Int} {l : List Int} (t : Int) (hl : ∀ x ∈ l, (Lit.int .u16 x).wf = true) (ha : -128 ≤ a ∧ a ≤ 127) (hb : -128 ≤ b ∧ b ≤ 127) (hn : l.length ≤ 1048576) (k : Nat) (hk : 50 < k) :
    spec_IsCover.f k a b l t = some (answer a b l t) := by
  unfold spec_IsCover.f answer
  rw [asked_f t hl ha hb hn k hk]
  simp only [Option.bind_some]
  by_cases o : okF a b l = true
  · rw [if_pos o, if_pos o]
    by_cases q : inn t (full a) = true
    · have := (okF_small o).2.2.2.2.1
      rw [if_pos q, if_pos q, if_pos rfl, specCover_f t o k (by omega)]; rfl
    · rw [if_neg q, if_neg q, if_neg (by decide)]
  · rw [if_neg o, if_neg o, if_neg (by decide)]
theorem impl_f {a b : Int} {l : List Int} (t : Int) (hl : ∀ x ∈ l, (Lit.int .u16 x).wf = true) (ha : -128 ≤ a ∧ a ≤ 127) (hb : -128 ≤ b ∧ b ≤ 127) (hn : l.length ≤ 1048576) (k : Nat) (hk : 50 < k) :
    impl_IsCover.f k a b l t = some (answer a b l t) := by
  unfold impl_IsCover.f answer
  rw [setCode_f t hl ha hb hn k hk]
  simp only [Option.bind_some]
  by_cases o : okF a b l = true
  · rw [if_pos o, if_pos o]
    by_cases q : inn t (full a) = true
    · have := (okF_small o).2.2.2.2.1
      rw [if_pos q, if_pos q, if_pos rfl, implCover_f a b l (full a) t hn (okF_inn o) k (by omega)]; rfl
    · rw [if_neg q, if_neg q, if_neg (by decide)]
  · rw [if_neg o, if_neg o, if_neg (by decide)]
theorem FnExactIsCover : laws_FnExactIsCover.Pure := by
  intro a b xs t ha hb hx hw ht
  obtain ⟨k, hk⟩ : ∃ k : Nat, 1048580 ≤ k := ⟨1048580, by omega⟩
  refine ⟨k + 1, ?_⟩
  unfold laws_FnExactIsCover.f
  rw [szFerry_f a b xs _ (by omega) (by omega) hx]
  by_cases q : (1048576 : Int) < xs.length
  · rw [if_pos q]; simp
  · rw [if_neg q]
    simp only [Option.bind_some]
    rw [if_neg (by omega), toFerry_f a b xs (by omega) _ (by omega)]
    simp only [Option.bind_some]
    rw [spec_f t hw (i8_wf ha) (i8_wf hb) (by omega) _ (by omega), impl_f t hw (i8_wf ha) (i8_wf hb) (by omega) _ (by omega)]
    simp only [Option.bind_some, bne_self_eq_false, Bool.false_eq_true, if_false, laws_FnExactIsCover.j0]
    rw [toFerry_f a b xs (by omega) _ (by omega)]
    simp only [Option.bind_some]
    rw [eqFerry_f a b xs (by omega) _ (by omega)]
    rfl

end Go.Proofs.Ytikdnhhegknplaa.Pure
