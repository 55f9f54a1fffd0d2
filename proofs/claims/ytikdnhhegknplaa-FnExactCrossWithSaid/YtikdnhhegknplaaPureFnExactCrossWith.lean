/- Proved: the program's CrossWith answers as the reference's for every ferry, bank and set, and leaves the ferry as it was. No conditions. -/
import Derived.Test.YtikdnhhegknplaaLFSafeX
import Derived.Test.YtikdnhhegknplaaSFnExactCrossWith
namespace Go.Proofs.Ytikdnhhegknplaa.Pure
open Go.RowKit Go.Proofs.Ytikdnhhegknplaa.X Go.Proofs.YtikdnhhegknplaaW.PrintWords Go.Proofs.YtikdnhhegknplaaW.PrintLast Go.Proofs.YtikdnhhegknplaaW.PrintMore
set_option linter.unusedVariables false
set_option linter.unusedSimpArgs false

def here (a t : Int) (f : Bool) : Int := if f = true then Go.bits .andNot .u16 (full a) t else t
def crossF (a b : Int) (l : List Int) (t : Int) (f : Bool) (u : Int) : Int × Bool × Int :=
  if inn u (here a t f) = true then (if (ones 16 u.toNat : Int) > b then (0, false, 3) else if bankF a l (Go.bits .xor .u16 t u) (!f) = true then (Go.bits .xor .u16 t u, !f, 0) else (0, false, 4)) else (0, false, 2)
def answer (a b : Int) (l : List Int) (t : Int) (f : Bool) (u : Int) : Int × Bool × Int :=
  if okF a b l = true then (if bankF a l t f = true then crossF a b l t f u else (0, false, 1)) else (0, false, 1)
theorem here_le {a b : Int} {l : List Int} {t : Int} {f : Bool} (o : okF a b l = true) (ht : 0 ≤ t ∧ t ≤ 65535) (hb : bankF a l t f = true) : 0 ≤ here a t f ∧ here a t f ≤ 255 := by
  have w := okF_small o
  have m := full_le w.1 w.2.1
  have q := bits_rng .andNot (full a) t
  have q2 := andNot_le (x := full a) (y := t) (by omega) (by omega)
  have q3 : t ≤ 255 := by
    unfold bankF at hb; rw [Bool.and_eq_true] at hb
    exact in_le w.1 w.2.1 ht hb.1
  unfold here
  cases f
  · rw [if_neg (by simp)]; omega
  · rw [if_pos rfl]; omega
theorem spec_f {a b : Int} {l : List Int} (t : Int) (f : Bool) (u : Int) (hu : 0 ≤ u ∧ u ≤ 65535) (hl : ∀ x ∈ l, (Lit.int .u16 x).wf = true) (ha : -128 ≤ a ∧ a ≤ 127) (hb : -128 ≤ b ∧ b ≤ 127) (hn : l.length ≤ 1048576) (k : Nat) (hk : 500 < k) :
    spec_CrossWith.f k a b l t f u = some (answer a b l t f u) := by
  unfold spec_CrossWith.f answer
  rw [specOk_f hl ha hb hn k (by omega)]
  simp only [Option.bind_some]
  by_cases o : okF a b l = true
  · have w := okF_small o
    rw [if_pos o, if_pos o, specBank_f t f o k (by omega)]
    simp only [Option.bind_some]
    by_cases p : bankF a l t f = true
    · rw [if_pos p, if_pos p]
      unfold spec_l05Cross.f crossF
      have e : spec_l05Here.f a b l t f = some (here a t f) := by
        unfold spec_l05Here.f here
        rw [specAll_f w.1 w.2.1]; cases f <;> rfl
      rw [e]
      simp only [Option.bind_some]
      by_cases q : inn u (here a t f) = true
      · rw [if_pos (of_decide_eq_true q), if_pos q, size_f hu.1 hu.2 k (by omega)]
        simp only [Option.bind_some]
        rw [show wrap64 b = b by unfold wrap64; omega]
        by_cases q2 : (ones 16 u.toNat : Int) > b
        · rw [if_pos q2, if_pos q2]; rfl
        · rw [if_neg q2, if_neg q2, specBank_f _ _ o k (by omega)]
          simp only [Option.bind_some]
          by_cases q3 : bankF a l (Go.bits .xor .u16 t u) (!f) = true
          · rw [if_pos q3, if_pos q3]; rfl
          · rw [if_neg q3, if_neg q3]; rfl
      · rw [if_neg (fun h => q (decide_eq_true h)), if_neg q]; rfl
    · rw [if_neg p, if_neg p]
  · rw [if_neg o, if_neg o]
theorem impl_f {a b : Int} {l : List Int} (t : Int) (f : Bool) (u : Int) (hu : 0 ≤ u ∧ u ≤ 65535) (ht : 0 ≤ t ∧ t ≤ 65535) (hl : ∀ x ∈ l, (Lit.int .u16 x).wf = true) (ha : -128 ≤ a ∧ a ≤ 127) (hb : -128 ≤ b ∧ b ≤ 127) (hn : l.length ≤ 1048576) (k : Nat) (hk : 500 < k) :
    impl_CrossWith.f k a b l t f u = some (answer a b l t f u) := by
  unfold impl_CrossWith.f answer impl_ValidBank.f
  rw [implOk_f hl ha hb hn k (by omega)]
  simp only [Option.bind_some]
  by_cases o : okF a b l = true
  · have w := okF_small o
    rw [if_pos o, if_pos o, implBank_f t f o k (by omega)]
    simp only [Option.bind_some]
    by_cases p : bankF a l t f = true
    · rw [if_pos p, if_pos p]
      unfold impl_Ferry_crossCode.f crossF impl_crossed.f impl_inside.f impl_unless.f
      rw [implSides_f t f o]
      have e : (if f = true then (Go.bits .andNot .u16 (full a) t, t) else (t, Go.bits .andNot .u16 (full a) t)).1 = here a t f := by unfold here; cases f <;> rfl
      simp only [Option.bind_some]
      rw [e]
      by_cases q : inn u (here a t f) = true
      · have hh := here_le o ht p
        have u2 := andNot_zero hu.1 hu.2 hh.1 (by omega) (of_decide_eq_true q)
        have q' : Go.bits .andNot .u16 u (here a t f) = 0 := of_decide_eq_true q
        rw [if_pos (by rw [q']; rfl), if_pos q, count_f hu.1 (by omega)]
        simp only [Option.bind_some]
        rw [show wrap64 b = b by unfold wrap64; omega]
        by_cases q2 : (ones 16 u.toNat : Int) > b
        · rw [if_pos q2, if_pos q2]; rfl
        · rw [if_neg q2, if_neg q2, implBank_f _ _ o k (by omega)]
          simp only [Option.bind_some]
          by_cases q3 : bankF a l (Go.bits .xor .u16 t u) (!f) = true
          · rw [if_pos q3, if_pos q3]; rfl
          · rw [if_neg q3, if_neg q3]; rfl
      · have q' : ¬ Go.bits .andNot .u16 u (here a t f) = 0 := fun h => q (decide_eq_true h)
        rw [if_neg (by simpa using q'), if_neg q]; rfl
    · rw [if_neg p, if_neg p]
  · rw [if_neg o, if_neg o]; rfl
theorem FnExactCrossWith : laws_FnExactCrossWith.Pure := by
  intro a b xs t f u ha hb hx hw ht hu
  obtain ⟨k, hk⟩ : ∃ k : Nat, 1048580 ≤ k := ⟨1048580, by omega⟩
  refine ⟨k + 1, ?_⟩
  unfold laws_FnExactCrossWith.f laws_toBank.f
  rw [szFerry_f a b xs _ (by omega) (by omega) hx]
  by_cases q : (1048576 : Int) < xs.length
  · rw [if_pos q]; simp
  · rw [if_neg q]
    simp only [Option.bind_some]
    rw [if_neg (by omega), toFerry_f a b xs (by omega) _ (by omega)]
    simp only [Option.bind_some]
    rw [spec_f t f u (set_wf hu) hw (i8_wf ha) (i8_wf hb) (by omega) _ (by omega), impl_f t f u (set_wf hu) (set_wf ht) hw (i8_wf ha) (i8_wf hb) (by omega) _ (by omega)]
    simp only [Option.bind_some, laws_eqBank.f, bne_self_eq_false, Bool.false_eq_true, if_false, if_true, laws_FnExactCrossWith.j0]
    rw [toFerry_f a b xs (by omega) _ (by omega)]
    simp only [Option.bind_some]
    rw [eqFerry_f a b xs (by omega) _ (by omega)]
    rfl

end Go.Proofs.Ytikdnhhegknplaa.Pure
