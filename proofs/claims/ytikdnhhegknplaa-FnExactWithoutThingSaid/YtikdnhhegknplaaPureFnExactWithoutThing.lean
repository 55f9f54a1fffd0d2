/- Proved: the program's WithoutThing answers as the reference's for every ferry and thing; what it gives back is its own. No conditions. -/
import Derived.Test.YtikdnhhegknplaaLFSafe
import Derived.Test.YtikdnhhegknplaaMx32
import Derived.Test.YtikdnhhegknplaaSFnExactWithoutThing
namespace Go.Proofs.Ytikdnhhegknplaa.Pure
open Go.RowKit Go.Proofs.Ytikdnhhegknplaa.M Go.Proofs.YtikdnhhegknplaaW.PrintWords Go.Proofs.YtikdnhhegknplaaW.PrintLast Go.Proofs.YtikdnhhegknplaaW.PrintMore
set_option linter.unusedVariables false
set_option linter.unusedSimpArgs false

theorem laws_markUint16S_l0 (d : Nat) : ∀ (l : List Int) (i j : Nat), j + d = l.length → i + d ≤ 140737488355328 → l.length ≤ 140737488355328 → ∀ k, d < k →
    ∃ l', laws_markUint16S.l0 k l i j = some (((i + d : Nat) : Int), l') ∧ l'.length = l.length ∧ (∀ q, q < j → l'.getD q 0 = l.getD q 0) ∧ (∀ q, j ≤ q → q < l.length → l'.getD q 0 = IntKind.u16.wrap ((i + (q - j) : Nat) : Int)) := by
  induction d with
  | zero =>
    intro l i j hj hi hl k hk
    obtain ⟨k, rfl⟩ : ∃ m, k = m + 1 := ⟨k - 1, by omega⟩
    refine ⟨l, ?_, rfl, fun _ _ => rfl, fun q h1 h2 => by omega⟩
    simp only [laws_markUint16S.l0]; rw [if_neg (by omega)]; simp
  | succ d ih =>
    intro l i j hj hi hl k hk
    obtain ⟨k, rfl⟩ : ∃ m, k = m + 1 := ⟨k - 1, by omega⟩
    simp only [laws_markUint16S.l0]
    rw [if_pos (by omega), if_pos (by omega), next_i (j := j) (n := l.length) (by omega) hl, next_i (n := 140737488355328) (j := i) (by omega) (by omega), Int.toNat_natCast]
    obtain ⟨l', e, el, e1, e2⟩ := ih (l.set j (IntKind.u16.wrap (i : Int))) (i + 1) (j + 1) (by rw [List.length_set]; omega) (by omega) (by rw [List.length_set]; omega) k (by omega)
    rw [List.length_set] at el
    refine ⟨l', ?_, el, fun q h => ?_, fun q h1 h2 => ?_⟩
    · rw [e]; simp; omega
    · rw [e1 q (by omega)]; simp only [List.getD_eq_getElem?_getD]; rw [List.getElem?_set_ne (by omega)]
    · by_cases c : q = j
      · subst c
        rw [e1 q (by omega)]; simp only [List.getD_eq_getElem?_getD]; rw [List.getElem?_set_self (by omega)]; simp
      · rw [e2 q (by omega) (by rw [List.length_set]; exact h2)]
        rw [show i + 1 + (q - (j + 1)) = i + (q - j) by omega]
theorem laws_heldUint16S_l0 (d : Nat) : ∀ (l : List Int) (i j : Nat), j + d = l.length → i + d ≤ 140737488355328 → l.length ≤ 140737488355328 → (∀ q, j ≤ q → q < l.length → l.getD q 0 = IntKind.u16.wrap ((i + (q - j) : Nat) : Int)) → ∀ k, d < k →
    laws_heldUint16S.l0 k l i j = some ((i + d : Nat) : Int) := by
  induction d with
  | zero =>
    intro l i j hj hi hl he k hk
    obtain ⟨k, rfl⟩ : ∃ m, k = m + 1 := ⟨k - 1, by omega⟩
    simp only [laws_heldUint16S.l0]; rw [if_neg (by omega)]; simp
  | succ d ih =>
    intro l i j hj hi hl he k hk
    obtain ⟨k, rfl⟩ : ∃ m, k = m + 1 := ⟨k - 1, by omega⟩
    simp only [laws_heldUint16S.l0]
    have h0 := he j (by omega) (by omega)
    rw [show i + (j - j) = i by omega] at h0
    rw [if_pos (by omega), if_pos (by omega), rd_at, if_pos h0, next_i (j := j) (n := l.length) (by omega) hl, next_i (n := 140737488355328) (j := i) (by omega) (by omega)]
    rw [ih l (i + 1) (j + 1) (by omega) (by omega) hl (fun q h1 h2 => by rw [he q (by omega) h2, show i + 1 + (q - (j + 1)) = i + (q - j) by omega]) k (by omega)]
    rw [show i + 1 + d = i + (d + 1) by omega]
/-- What is marked is held. -/
theorem laws_markUint16S_held (l : List Int) (i : Nat) (hi : i + l.length ≤ 140737488355328) (k k2 : Nat) (hk : l.length < k) (hk2 : l.length < k2) :
    ∃ l', laws_markUint16S.f k l i = some (((i + l.length : Nat) : Int), l') ∧ l'.length = l.length ∧ laws_heldUint16S.f k2 l' i = some ((i + l.length : Nat) : Int) := by
  obtain ⟨l', e, el, _, e2⟩ := laws_markUint16S_l0 l.length l i 0 (by omega) (by omega) (by omega) k hk
  refine ⟨l', e, el, ?_⟩
  have := laws_heldUint16S_l0 l.length l' i 0 (by omega) (by omega) (by omega) (fun q h1 h2 => e2 q h1 (by omega)) k2 (by omega)
  exact this

def keep (t : Int) (r : Int) : List Int :=
  if Int.tmod (shr .u16 r t) 2 = 0 then [Go.bits .or .u16 (Go.bits .and .u16 r (IntKind.u16.wrap ((shl .u16 1 t) - 1))) (Go.bits .andNot .u16 (r / 2) (IntKind.u16.wrap ((shl .u16 1 t) - 1)))] else []
theorem two_ways : ∀ (t : Fin 8) (r : Fin 256),
    (Go.bits .and .u16 (shr .u16 ((r.val : Nat) : Int) ((t.val : Nat) : Int)) 1 = 0 ↔ Int.tmod (shr .u16 ((r.val : Nat) : Int) ((t.val : Nat) : Int)) 2 = 0) ∧
    (Int.tmod (shr .u16 ((r.val : Nat) : Int) ((t.val : Nat) : Int)) 2 = 0 → Go.bits .or .u16 (Go.bits .and .u16 ((r.val : Nat) : Int) (IntKind.u16.wrap ((shl .u16 1 ((t.val : Nat) : Int)) - 1))) ((Go.bits .andNot .u16 ((r.val : Nat) : Int) (Go.bits .and .u16 ((r.val : Nat) : Int) (IntKind.u16.wrap ((shl .u16 1 ((t.val : Nat) : Int)) - 1)))) / 2)
      = Go.bits .or .u16 (Go.bits .and .u16 ((r.val : Nat) : Int) (IntKind.u16.wrap ((shl .u16 1 ((t.val : Nat) : Int)) - 1))) (Go.bits .andNot .u16 (((r.val : Nat) : Int) / 2) (IntKind.u16.wrap ((shl .u16 1 ((t.val : Nat) : Int)) - 1)))) := by decide +kernel
theorem two {t r : Int} (ht : 0 ≤ t ∧ t < 8) (hr : 0 ≤ r ∧ r ≤ 255) :
    (Go.bits .and .u16 (shr .u16 r t) 1 = 0 ↔ Int.tmod (shr .u16 r t) 2 = 0) ∧
    (Int.tmod (shr .u16 r t) 2 = 0 → Go.bits .or .u16 (Go.bits .and .u16 r (IntKind.u16.wrap ((shl .u16 1 t) - 1))) ((Go.bits .andNot .u16 r (Go.bits .and .u16 r (IntKind.u16.wrap ((shl .u16 1 t) - 1)))) / 2)
      = Go.bits .or .u16 (Go.bits .and .u16 r (IntKind.u16.wrap ((shl .u16 1 t) - 1))) (Go.bits .andNot .u16 (r / 2) (IntKind.u16.wrap ((shl .u16 1 t) - 1)))) := by
  have := two_ways ⟨t.toNat, by omega⟩ ⟨r.toNat, by omega⟩
  simp only at this
  rw [show ((r.toNat : Nat) : Int) = r by omega, show ((t.toNat : Nat) : Int) = t by omega] at this
  exact this
theorem spec_l0 {t : Int} (ht : 0 ≤ t ∧ t < 8) (a b : Int) (l : List Int) (hn : l.length ≤ 1000) (p q : Int) (d : Nat) : ∀ (j : Nat) (o : List Int), j + d = l.length → o.length ≤ j → ∀ k, d < k →
    spec_WithoutThing.l0 k t (IntKind.u16.wrap ((shl .u16 1 t) - 1)) j a b l p q o = some (p, q, o ++ (l.drop j).flatMap (keep t), 0) := by
  have et : IntKind.u64.wrap t = t := by simp only [IntKind.wrap, IntKind.bits, IntKind.signed, Bool.false_and, Bool.false_eq_true, if_false]; omega
  induction d with
  | zero =>
    intro j o hj ho k hk
    obtain ⟨k, rfl⟩ : ∃ m, k = m + 1 := ⟨k - 1, by omega⟩
    simp only [spec_WithoutThing.l0]; rw [if_neg (by omega), List.drop_of_length_le (by omega)]; simp
  | succ d ih =>
    intro j o hj ho k hk
    obtain ⟨k, rfl⟩ : ∃ m, k = m + 1 := ⟨k - 1, by omega⟩
    simp only [spec_WithoutThing.l0]
    rw [et, if_pos (by omega), if_pos (by omega), if_pos ht.1, rd_at, drop_at l j (by omega), next_i (n := l.length) (by omega) (by omega)]
    rw [List.flatMap_cons]
    by_cases c : Int.tmod (shr .u16 (l.getD j 0) t) 2 = 0
    · rw [if_pos c, if_pos (by omega), ih (j + 1) _ (by omega) (by rw [List.length_append]; simp; omega) k (by omega)]
      unfold keep; rw [if_pos c]; simp
    · rw [if_neg c, ih (j + 1) _ (by omega) (by omega) k (by omega)]
      conv => rhs; unfold keep
      rw [if_neg c]; simp only [List.nil_append]; rfl
theorem impl_l0 {t : Int} (ht : 0 ≤ t ∧ t < 8) (l : List Int) (hl : ∀ r ∈ l, 0 ≤ r ∧ r ≤ 255) (hn : l.length ≤ 1000) (p q : Int) (d : Nat) : ∀ (j : Nat) (o : List Int), j + d = l.length → o.length ≤ j → ∀ k, d < k →
    impl_WithoutThing.l0 k t l l.length j p q o = some (p, q, o ++ (l.drop j).flatMap (keep t), 0) := by
  induction d with
  | zero =>
    intro j o hj ho k hk
    obtain ⟨k, rfl⟩ : ∃ m, k = m + 1 := ⟨k - 1, by omega⟩
    simp only [impl_WithoutThing.l0]; rw [if_neg (by omega), List.drop_of_length_le (by omega)]; simp
  | succ d ih =>
    intro j o hj ho k hk
    obtain ⟨k, rfl⟩ : ∃ m, k = m + 1 := ⟨k - 1, by omega⟩
    have w := two ht (hl _ (getD_mem l j (by omega)))
    simp only [impl_WithoutThing.l0]
    rw [if_pos (by omega), if_pos (by omega), if_pos (by omega), if_pos ht.1, rd_at, drop_at l j (by omega), next_i (n := l.length) (by omega) (by omega)]
    rw [List.flatMap_cons]
    by_cases c : Int.tmod (shr .u16 (l.getD j 0) t) 2 = 0
    · rw [if_pos (w.1.2 c), if_pos (by omega), w.2 c, ih (j + 1) _ (by omega) (by rw [List.length_append]; simp; omega) k (by omega)]
      unfold keep; rw [if_pos c]; simp
    · rw [if_neg (fun h => c (w.1.1 h)), ih (j + 1) _ (by omega) (by omega) k (by omega)]
      conv => rhs; unfold keep
      rw [if_neg c]; simp only [List.nil_append]; rfl
def answer (a b : Int) (l : List Int) (t : Int) : Int × Int × List Int × Int :=
  if okF a b l = true then (if 0 ≤ t ∧ t ≤ a - 1 then (if a = 1 then (0, 0, [], 4) else (a - 1, if b < a - 1 then b else a - 1, l.flatMap (keep t), 0)) else (0, 0, [], 2)) else (0, 0, [], 1)
theorem i8_wrap {x : Int} (h : -128 ≤ x) (h2 : x ≤ 127) : IntKind.i8.wrap x = x := by
  have e : IntKind.i8.wrap x = if x % 256 ≥ 128 then x % 256 - 256 else x % 256 := by simp [IntKind.wrap, IntKind.bits, IntKind.signed]
  rw [e]; split <;> omega
theorem okF_le {a b : Int} {l : List Int} (hl : ∀ x ∈ l, (Lit.int .u16 x).wf = true) (o : okF a b l = true) : ∀ r ∈ l, 0 ≤ r ∧ r ≤ 255 := by
  intro r hr
  have w := okF_small o
  have := set_wf (hl r hr)
  exact ⟨this.1, in_le w.1 w.2.1 this (okF_inn o r hr)⟩
theorem spec_f {a b : Int} {l : List Int} (t : Int) (hl : ∀ x ∈ l, (Lit.int .u16 x).wf = true) (ha : -128 ≤ a ∧ a ≤ 127) (hb : -128 ≤ b ∧ b ≤ 127) (hn : l.length ≤ 1048576) (k : Nat) (hk : 500 < k) :
    spec_WithoutThing.f k a b l t = some (answer a b l t) := by
  unfold spec_WithoutThing.f answer spec_l00In.f spec_l00Min.f
  rw [specOk_f hl ha hb hn k (by omega)]
  simp only [Option.bind_some]
  by_cases o : okF a b l = true
  · have w := okF_small o
    rw [if_pos o, if_pos o, show wrap64 a = a by unfold wrap64; omega, show wrap64 b = b by unfold wrap64; omega, show wrap64 (a - 1) = a - 1 by unfold wrap64; omega]
    by_cases c1 : 0 ≤ t
    · rw [if_pos (by omega)]
      simp only [Option.bind_some]
      by_cases c2 : t ≤ a - 1
      · rw [if_pos (by simpa using c2), if_pos (show 0 ≤ t ∧ t ≤ a - 1 from ⟨c1, c2⟩)]
        by_cases c3 : a = 1
        · rw [if_pos c3, if_pos c3]
        · rw [if_neg c3, if_neg c3]
          have et : IntKind.u64.wrap t = t := by simp only [IntKind.wrap, IntKind.bits, IntKind.signed, Bool.false_and, Bool.false_eq_true, if_false]; omega
          rw [et, i8_wrap (by omega) (by omega)]
          have := fun m => spec_l0 (t := t) (by omega) a b l (by omega) (a - 1) m l.length 0 [] (by omega) (by simp) k (by omega)
          by_cases c4 : b < a - 1
          · rw [if_pos c4, if_pos c4]; simp only [Option.bind_some]; rw [if_pos c1, i8_wrap (by omega) (by omega)]; exact this b
          · rw [if_neg c4, if_neg c4]; simp only [Option.bind_some]; rw [if_pos c1, i8_wrap (by omega) (by omega)]; exact this (a - 1)
      · rw [if_neg (by simpa using c2), if_neg (show ¬ (0 ≤ t ∧ t ≤ a - 1) from fun h => c2 h.2)]
    · rw [if_neg (by omega), if_neg (show ¬ (0 ≤ t ∧ t ≤ a - 1) from fun h => c1 h.1)]; rfl
  · rw [if_neg o, if_neg o]
theorem impl_f {a b : Int} {l : List Int} (t : Int) (hl : ∀ x ∈ l, (Lit.int .u16 x).wf = true) (ha : -128 ≤ a ∧ a ≤ 127) (hb : -128 ≤ b ∧ b ≤ 127) (hn : l.length ≤ 1048576) (k : Nat) (hk : 500 < k) :
    impl_WithoutThing.f k a b l t = some (answer a b l t) := by
  unfold impl_WithoutThing.f answer impl_within.f
  rw [implOk_f hl ha hb hn k (by omega)]
  simp only [Option.bind_some]
  by_cases o : okF a b l = true
  · have w := okF_small o
    rw [if_pos o, if_pos o, show wrap64 a = a by unfold wrap64; omega, show wrap64 (a - 1) = a - 1 by unfold wrap64; omega]
    by_cases c1 : 0 ≤ t
    · rw [if_pos (by omega)]
      simp only [Option.bind_some]
      by_cases c2 : t ≤ a - 1
      · rw [if_pos (by simpa using c2), if_pos (show 0 ≤ t ∧ t ≤ a - 1 from ⟨c1, c2⟩)]
        by_cases c3 : a = 1
        · rw [if_pos c3, if_pos c3]
        · rw [if_neg c3, if_neg c3, i8_wrap (by omega) (by omega)]
          have em : mn b (a - 1) = if b < a - 1 then b else a - 1 := by unfold mn; split <;> split <;> omega
          rw [em]
          exact impl_l0 (t := t) (by omega) l (okF_le hl o) (by omega) (a - 1) _ l.length 0 [] (by omega) (by simp) k (by omega)
      · rw [if_neg (by simpa using c2), if_neg (show ¬ (0 ≤ t ∧ t ≤ a - 1) from fun h => c2 h.2)]
    · rw [if_neg (by omega), if_neg (show ¬ (0 ≤ t ∧ t ≤ a - 1) from fun h => c1 h.1)]; rfl
  · rw [if_neg o, if_neg o]
theorem keep_len (t : Int) (l : List Int) : (l.flatMap (keep t)).length ≤ l.length := by
  induction l with
  | nil => simp
  | cons x l ih => rw [List.flatMap_cons, List.length_append, List.length_cons]; have : (keep t x).length ≤ 1 := by unfold keep; split <;> simp
                   omega
theorem answer_len (a b : Int) (l : List Int) (t : Int) (hn : l.length ≤ 1048576) : (answer a b l t).2.2.1.length ≤ 1048576 := by
  have := keep_len t l
  unfold answer
  split
  · split
    · split
      · simp
      · simp only; omega
    · simp
  · simp
theorem FnExactWithoutThing : laws_FnExactWithoutThing.Pure := by
  intro a b xs t ha hb hx hw ht
  obtain ⟨k, hk⟩ : ∃ k : Nat, 1048580 ≤ k := ⟨1048580, by omega⟩
  refine ⟨k + 1 + 1 + 1, ?_⟩
  unfold laws_FnExactWithoutThing.f
  rw [szFerry_f a b xs _ (by omega) (by omega) hx]
  by_cases q : (1048576 : Int) < xs.length
  · rw [if_pos q]; simp
  · rw [if_neg q]
    simp only [Option.bind_some]
    rw [if_neg (by omega), toFerry_f a b xs (by omega) _ (by omega)]
    simp only [Option.bind_some]
    rw [spec_f t hw (i8_wf ha) (i8_wf hb) (by omega) _ (by omega), impl_f t hw (i8_wf ha) (i8_wf hb) (by omega) _ (by omega)]
    have al := answer_len a b xs t (by omega)
    have im := fun k hk => impl_f (a := a) (b := b) (l := xs) t hw (i8_wf ha) (i8_wf hb) (by omega) k hk
    generalize answer a b xs t = v at al im ⊢
    obtain ⟨v1, v2, vl, v3⟩ := v
    simp only at al
    simp only [Option.bind_some, bne_self_eq_false, Bool.false_eq_true, if_false]
    rw [eqFerry_f v1 v2 vl al _ (by omega)]
    simp only [Option.bind_some, if_true, laws_FnExactWithoutThing.j0, Bool.false_eq_true, if_false]
    rw [toFerry_f a b xs (by omega) _ (by omega)]
    simp only [Option.bind_some]
    rw [eqFerry_f a b xs (by omega) _ (by omega)]
    simp only [Option.bind_some, if_true]
    obtain ⟨x', m1, _, _⟩ := laws_markUint16S_held xs 1 (by omega) (k + 1 + 1) (k + 1 + 1) (by omega) (by omega)
    rw [show ((1 : Nat) : Int) = 1 from rfl] at m1
    unfold laws_markFerry.f
    rw [m1]
    simp only [Option.bind_some]
    rw [if_neg (by omega), eqFerry_f v1 v2 vl al _ (by omega)]
    simp only [Option.bind_some, if_true, laws_FnExactWithoutThing.j1, bne_self_eq_false, Bool.false_eq_true, if_false]
    obtain ⟨y', n1, nl, n2⟩ := laws_markUint16S_held vl 1 (by omega) (k + 1) (k + 1) (by omega) (by omega)
    obtain ⟨z', p1, pl, p2⟩ := laws_markUint16S_held vl 1 (by omega) (k + 1) k (by omega) (by omega)
    have : z' = y' := by rw [n1] at p1; simpa using p1.symm
    subst this
    rw [show ((1 : Nat) : Int) = 1 from rfl] at n1 n2 p2
    unfold laws_markFerry.f
    rw [n1]
    simp only [Option.bind_some]
    unfold laws_heldFerry.f
    rw [n2]
    simp only [Option.bind_some]
    rw [if_neg (by omega)]
    simp only [Option.bind_some]
    rw [if_neg (by omega)]
    simp only [if_true]
    rw [toFerry_f a b xs (by omega) _ (by omega)]
    simp only [Option.bind_some]
    rw [im _ (by omega)]
    simp only [Option.bind_some]
    rw [eqFerry_f v1 v2 vl al _ (by omega)]
    simp only [Option.bind_some, if_true, laws_FnExactWithoutThing.j2, bne_self_eq_false, Bool.false_eq_true, if_false]
    unfold laws_heldFerry.f
    rw [p2]
    simp only [Option.bind_some]
    rw [if_neg (by omega)]
    simp only [Option.bind_some]
    rw [if_neg (by omega)]
    simp

end Go.Proofs.Ytikdnhhegknplaa.Pure
