/- Safe sets, covers and banks: the reference's and the program's tests are the same. -/
import Derived.Test.YtikdnhhegknplaaLFValidX
import Derived.Test.YtikdnhhegknplaaXx10
import Derived.Test.YtikdnhhegknplaaXx5
import Derived.Test.YtikdnhhegknplaaXx8
namespace Go.Proofs.Ytikdnhhegknplaa.X
open Go.RowKit Go.Proofs.YtikdnhhegknplaaW.PrintWords Go.Proofs.YtikdnhhegknplaaW.PrintLast Go.Proofs.YtikdnhhegknplaaW.PrintMore
set_option linter.unusedVariables false
set_option linter.unusedSimpArgs false

theorem B_wrap (v : BitVec 16) : BitVec.ofInt 16 (IntKind.u16.wrap (v.toNat : Int)) = v := by
  have q := v.isLt
  rw [u16_wrap (by omega) (by omega)]
  apply BitVec.eq_of_toNat_eq
  rw [BitVec.toNat_ofInt]; omega
theorem bits_rng (op : BinOp) (x y : Int) : 0 ≤ Go.bits op .u16 x y ∧ Go.bits op .u16 x y ≤ 65535 := by
  unfold Go.bits
  simp only [IntKind.wrap, IntKind.bits, IntKind.signed, Bool.false_and, Bool.false_eq_true, if_false]; omega
theorem B_andNot (x y : Int) : BitVec.ofInt 16 (Go.bits .andNot .u16 x y) = BitVec.ofInt 16 x &&& ~~~ BitVec.ofInt 16 y := B_wrap _
theorem B_and (x y : Int) : BitVec.ofInt 16 (Go.bits .and .u16 x y) = BitVec.ofInt 16 x &&& BitVec.ofInt 16 y := B_wrap _
theorem B_or (x y : Int) : BitVec.ofInt 16 (Go.bits .or .u16 x y) = BitVec.ofInt 16 x ||| BitVec.ofInt 16 y := B_wrap _
theorem B_zero {x : Int} (h : 0 ≤ x ∧ x ≤ 65535) : x = 0 ↔ BitVec.ofInt 16 x = 0#16 := by
  constructor
  · intro e; rw [e]; rfl
  · intro e
    have := congrArg BitVec.toNat e
    rw [ofInt_toNat h.1 h.2] at this
    simp only [BitVec.toNat_ofNat] at this; omega
theorem cover_bits {r m t : Int} (h : inn r m = true) : inn r (Go.bits .andNot .u16 m t) = decide (Go.bits .and .u16 r t = 0) := by
  have h := (B_zero (bits_rng _ _ _)).1 (of_decide_eq_true h)
  rw [B_andNot] at h
  unfold inn
  apply decide_eq_decide.2
  rw [B_zero (bits_rng _ _ _), B_zero (bits_rng _ _ _), B_andNot, B_andNot, B_and]
  have e : BitVec.ofInt 16 r &&& ~~~ (BitVec.ofInt 16 m &&& ~~~ BitVec.ofInt 16 t) = BitVec.ofInt 16 r &&& BitVec.ofInt 16 t := by
    ext i hi
    have := congrArg (fun z => z[i]) h
    simp only [BitVec.getElem_and, BitVec.getElem_not, BitVec.getElem_zero] at this ⊢
    revert this; cases (BitVec.ofInt 16 r)[i] <;> cases (BitVec.ofInt 16 m)[i] <;> cases (BitVec.ofInt 16 t)[i] <;> simp
  rw [e]
theorem andNot_le {x y : Int} (hx : 0 ≤ x) (hx2 : x ≤ 65535) : Go.bits .andNot .u16 x y ≤ x := by
  have q := bits_rng .andNot x y
  have e := congrArg BitVec.toNat (B_andNot x y)
  rw [ofInt_toNat q.1 q.2, BitVec.toNat_and, ofInt_toNat hx hx2] at e
  have : x.toNat &&& (~~~ BitVec.ofInt 16 y).toNat ≤ x.toNat := Nat.and_le_left
  omega
def safe (l : List Int) (t : Int) : Bool := l.all fun r => !inn r t
theorem specSafe_l0 (a b : Int) (l : List Int) (t : Int) (hn : l.length ≤ 1048576) (d : Nat) : ∀ j : Nat, j + d = l.length → ∀ k, d < k →
    spec_l05Safe.l0 k t j a b l = some ((l.drop j).all fun r => !inn r t) := by
  induction d with
  | zero =>
    intro j hj k hk
    obtain ⟨k, rfl⟩ : ∃ m, k = m + 1 := ⟨k - 1, by omega⟩
    simp only [spec_l05Safe.l0]; rw [if_neg (by omega), List.drop_of_length_le (by omega)]; rfl
  | succ d ih =>
    intro j hj k hk
    obtain ⟨k, rfl⟩ : ∃ m, k = m + 1 := ⟨k - 1, by omega⟩
    simp only [spec_l05Safe.l0]
    rw [if_pos (by omega), if_pos (by omega), rd_at, all_at l j (by omega)]
    by_cases q : Go.bits .andNot .u16 (l.getD j 0) t = 0
    · rw [if_pos q]; simp only [inn, q]; simp
    · rw [if_neg q, next_i (n := l.length) (by omega) (by omega), ih (j + 1) (by omega) k (by omega)]; simp only [inn, q]; simp
theorem specSafe_f (a b : Int) (l : List Int) (t : Int) (hn : l.length ≤ 1048576) (k : Nat) (hk : l.length < k) : spec_l05Safe.f k a b l t = some (safe l t) := by
  unfold spec_l05Safe.f
  have := specSafe_l0 a b l t hn l.length 0 (by omega) k hk
  simp only [List.drop_zero] at this
  exact this
theorem implSafe_l0 (l : List Int) (t : Int) (hn : l.length ≤ 1048576) (d : Nat) : ∀ j : Nat, j + d = l.length → ∀ k, d < k →
    ∃ v, slices_IndexFunc_uint16_uint16_67.l0 k l l.length j t = some v ∧ decide (v ≥ 0) = !((l.drop j).all fun r => !inn r t) := by
  induction d with
  | zero =>
    intro j hj k hk
    obtain ⟨k, rfl⟩ : ∃ m, k = m + 1 := ⟨k - 1, by omega⟩
    refine ⟨-1, ?_, ?_⟩
    · simp only [slices_IndexFunc_uint16_uint16_67.l0]; rw [if_neg (by omega)]
    · rw [List.drop_of_length_le (by omega)]; rfl
  | succ d ih =>
    intro j hj k hk
    obtain ⟨k, rfl⟩ : ∃ m, k = m + 1 := ⟨k - 1, by omega⟩
    simp only [slices_IndexFunc_uint16_uint16_67.l0, impl_Ferry_isSafe_1.f, impl_inside.f]
    rw [if_pos (by omega), if_pos (by omega), if_pos (by omega), rd_at, all_at l j (by omega)]
    simp only [Option.bind_some]
    by_cases q : Go.bits .andNot .u16 (l.getD j 0) t = 0
    · rw [if_pos (by rw [q]; rfl)]; refine ⟨_, rfl, ?_⟩
      simp only [inn, q]; simp
    · rw [if_neg (by simpa using q), next_i (n := l.length) (by omega) (by omega)]
      obtain ⟨v, e1, e2⟩ := ih (j + 1) (by omega) k (by omega)
      refine ⟨v, e1, ?_⟩
      rw [e2]; simp only [inn, q]; simp
theorem implSafe_f (a b : Int) (l : List Int) (t : Int) (hn : l.length ≤ 1048576) (k : Nat) (hk : l.length < k) : impl_Ferry_isSafe.f k a b l t = some (safe l t) := by
  unfold impl_Ferry_isSafe.f slices_ContainsFunc_uint16_uint16_67.f slices_IndexFunc_uint16_uint16_67.f
  obtain ⟨v, e1, e2⟩ := implSafe_l0 l t hn l.length 0 (by omega) k hk
  have e0 : slices_IndexFunc_uint16_uint16_67.l0 k l l.length 0 t = some v := e1
  rw [e0]
  simp only [Option.bind_some, List.drop_zero] at e2 ⊢
  rw [e2, Bool.not_not]; rfl
theorem okF_inn {a b : Int} {l : List Int} (h : okF a b l = true) : ∀ r ∈ l, inn r (full a) = true := by
  intro r hr
  have := (okF_small h).2.2.2.2.2 r hr
  unfold okSet at this
  rw [Bool.and_eq_true] at this
  exact this.1
def bankF (a : Int) (l : List Int) (t : Int) (f : Bool) : Bool := inn t (full a) && (if f = true then safe l t else safe l (Go.bits .andNot .u16 (full a) t))
theorem specBank_f {a b : Int} {l : List Int} (t : Int) (f : Bool) (h : okF a b l = true) (k : Nat) (hk : l.length < k) : spec_l05Bank.f k a b l t f = some (bankF a l t f) := by
  have w := okF_small h
  unfold spec_l05Bank.f
  rw [specAll_f w.1 w.2.1]
  simp only [Option.bind_some]
  unfold bankF inn
  by_cases q : Go.bits .andNot .u16 t (full a) = 0
  · rw [if_pos q]
    by_cases c : f = true
    · rw [if_pos c, if_pos c, specSafe_f a b l _ (by omega) k hk]; simp [q]
    · rw [if_neg c, if_neg c, specSafe_f a b l _ (by omega) k hk]; simp [q]
  · rw [if_neg q]; simp [q]
theorem implSides_f {a b : Int} {l : List Int} (t : Int) (f : Bool) (h : okF a b l = true) : impl_Ferry_sides.f a b l t f = some (if f = true then (Go.bits .andNot .u16 (full a) t, t) else (t, Go.bits .andNot .u16 (full a) t)) := by
  have w := okF_small h
  unfold impl_Ferry_sides.f
  rw [implAll_f w.1 w.2.1]
  cases f <;> rfl
theorem implBank_f {a b : Int} {l : List Int} (t : Int) (f : Bool) (h : okF a b l = true) (k : Nat) (hk : l.length < k) : impl_Ferry_isBank.f k a b l t f = some (bankF a l t f) := by
  have w := okF_small h
  unfold impl_Ferry_isBank.f
  rw [implSides_f t f h]
  simp only [Option.bind_some]
  rw [implAll_f w.1 w.2.1]
  unfold impl_inside.f
  simp only [Option.bind_some]
  unfold bankF inn
  by_cases q : Go.bits .andNot .u16 t (full a) = 0
  · rw [if_pos (by rw [q]; rfl)]
    cases f
    · simp only [Bool.false_eq_true, if_false]; rw [implSafe_f a b l _ (by omega) k hk]; simp [q]
    · simp only [if_true]; rw [implSafe_f a b l _ (by omega) k hk]; simp [q]
  · rw [if_neg (by simpa using q)]; simp [q]

end Go.Proofs.Ytikdnhhegknplaa.X
