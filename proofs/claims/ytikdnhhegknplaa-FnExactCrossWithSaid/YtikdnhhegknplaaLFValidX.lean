/- The reference's and the program's ValidFerry come to the same test. -/
import Derived.Test.YtikdnhhegknplaaLFBaseX
import Derived.Test.YtikdnhhegknplaaXx2
import Derived.Test.YtikdnhhegknplaaXx3
import Derived.Test.YtikdnhhegknplaaXx4
import Derived.Test.YtikdnhhegknplaaXx6
import Derived.Test.YtikdnhhegknplaaXx7
namespace Go.Proofs.Ytikdnhhegknplaa.X
open Go.RowKit Go.Proofs.YtikdnhhegknplaaW.PrintWords Go.Proofs.YtikdnhhegknplaaW.PrintLast Go.Proofs.YtikdnhhegknplaaW.PrintMore
set_option linter.unusedVariables false
set_option linter.unusedSimpArgs false

def ones : Nat → Nat → Nat
  | 0, _ => 0
  | n + 1, r => r % 2 + ones n (r / 2)
def full (a : Int) : Int := 2 ^ a.toNat - 1
def inn (r t : Int) : Bool := decide (Go.bits .andNot .u16 r t = 0)
def okSet (a r : Int) : Bool := inn r (full a) && decide (2 ≤ ones 16 r.toNat)
def okF (a b : Int) (l : List Int) : Bool := decide (1 ≤ a ∧ a ≤ 8 ∧ 0 ≤ b ∧ b ≤ a ∧ l.length ≤ 20) && l.all (okSet a)
theorem okF_small {a b : Int} {l : List Int} (h : okF a b l = true) : 1 ≤ a ∧ a ≤ 8 ∧ 0 ≤ b ∧ b ≤ a ∧ l.length ≤ 20 ∧ ∀ r ∈ l, okSet a r = true := by
  unfold okF at h
  simp only [Bool.and_eq_true, decide_eq_true_eq, List.all_eq_true] at h
  exact ⟨h.1.1, h.1.2.1, h.1.2.2.1, h.1.2.2.2.1, h.1.2.2.2.2, h.2⟩
theorem eight {a : Int} (h1 : 1 ≤ a) (h8 : a ≤ 8) : a = 1 ∨ a = 2 ∨ a = 3 ∨ a = 4 ∨ a = 5 ∨ a = 6 ∨ a = 7 ∨ a = 8 := by omega
theorem full_le {a : Int} (h1 : 1 ≤ a) (h8 : a ≤ 8) : 1 ≤ full a ∧ full a ≤ 255 := by
  rcases eight h1 h8 with rfl | rfl | rfl | rfl | rfl | rfl | rfl | rfl <;> decide
theorem specAll_f {a b : Int} {l : List Int} (h1 : 1 ≤ a) (h8 : a ≤ 8) : spec_l05All.f a b l = some (full a) := by
  unfold spec_l05All.f
  rcases eight h1 h8 with rfl | rfl | rfl | rfl | rfl | rfl | rfl | rfl <;> decide
theorem implAll_f {a b : Int} {l : List Int} (h1 : 1 ≤ a) (h8 : a ≤ 8) : impl_Ferry_all.f a b l = some (full a) := by
  unfold impl_Ferry_all.f
  rcases eight h1 h8 with rfl | rfl | rfl | rfl | rfl | rfl | rfl | rfl <;> decide
theorem u16_wrap {x : Int} (h : 0 ≤ x) (h2 : x ≤ 65535) : IntKind.u16.wrap x = x := by
  simp only [IntKind.wrap, IntKind.bits, IntKind.signed, Bool.false_and, Bool.false_eq_true, if_false] <;> omega
theorem ofInt_toNat {x : Int} (h : 0 ≤ x) (h2 : x ≤ 65535) : (BitVec.ofInt 16 x).toNat = x.toNat := by
  rw [BitVec.toNat_ofInt]; omega
theorem andNot_zero {x y : Int} (hx : 0 ≤ x) (hx2 : x ≤ 65535) (hy : 0 ≤ y) (hy2 : y ≤ 65535) (h : Go.bits .andNot .u16 x y = 0) : x ≤ y := by
  unfold Go.bits at h
  have e : (BitVec.ofInt 16 x &&& ~~~ BitVec.ofInt 16 y).toNat = 0 := by
    have q := (BitVec.ofInt 16 x &&& ~~~ BitVec.ofInt 16 y).isLt
    have h' : IntKind.u16.wrap ((BitVec.ofInt 16 x &&& ~~~ BitVec.ofInt 16 y).toNat : Int) = 0 := h
    rw [u16_wrap (by omega) (by omega)] at h'; omega
  have e2 : BitVec.ofInt 16 x &&& ~~~ BitVec.ofInt 16 y = 0#16 := BitVec.eq_of_toNat_eq (by rw [e]; rfl)
  have e3 : BitVec.ofInt 16 x &&& BitVec.ofInt 16 y = BitVec.ofInt 16 x := by
    ext i hi
    have := congrArg (fun z => z[i]) e2
    simp only [BitVec.getElem_and, BitVec.getElem_not, BitVec.getElem_zero] at this ⊢
    revert this; cases (BitVec.ofInt 16 x)[i] <;> cases (BitVec.ofInt 16 y)[i] <;> simp
  have e4 := congrArg BitVec.toNat e3
  rw [BitVec.toNat_and, ofInt_toNat hx hx2, ofInt_toNat hy hy2] at e4
  have : x.toNat &&& y.toNat ≤ y.toNat := Nat.and_le_right
  omega
theorem size_l0 (n : Nat) : ∀ (r c : Nat), r < 2 ^ n → r < 65536 → c + n < 1000 → ∀ k, n < k → spec_l05Size.l0 k r c = some ((c + ones n r : Nat) : Int) := by
  induction n with
  | zero =>
    intro r c h _ _ k hk
    obtain ⟨k, rfl⟩ : ∃ m, k = m + 1 := ⟨k - 1, by omega⟩
    simp only [spec_l05Size.l0]; rw [if_neg (by omega)]; simp [ones]
  | succ n ih =>
    intro r c h h2 h3 k hk
    obtain ⟨k, rfl⟩ : ∃ m, k = m + 1 := ⟨k - 1, by omega⟩
    simp only [spec_l05Size.l0]
    by_cases q : r = 0
    · subst q
      rw [if_neg (by simp)]
      have : ∀ n, ones n 0 = 0 := by intro n; induction n with
        | zero => rfl
        | succ n ih => simp [ones, ih]
      rw [this]; rfl
    · rw [if_pos (by omega)]
      have e1 : IntKind.u16.wrap (Int.tdiv (r : Int) 2) = ((r / 2 : Nat) : Int) := by
        rw [Int.tdiv_eq_ediv_of_nonneg (by omega), u16_wrap (by omega) (by omega)]; omega
      have e2 : wrap64 ((c : Int) + wrap64 (Int.tmod (r : Int) 2)) = ((c + r % 2 : Nat) : Int) := by
        rw [Int.tmod_eq_emod_of_nonneg (by omega)]; unfold wrap64; omega
      rw [e1, e2, ih (r / 2) (c + r % 2) (by rw [Nat.pow_succ] at h; omega) (by omega) (by omega) k (by omega)]
      simp only [ones]; congr 2; omega
theorem size_f {r : Int} (h : 0 ≤ r) (h2 : r ≤ 65535) (k : Nat) (hk : 16 < k) : spec_l05Size.f k r = some ((ones 16 r.toNat : Nat) : Int) := by
  unfold spec_l05Size.f
  have := size_l0 16 r.toNat 0 (by omega) (by omega) (by omega) k hk
  rw [show ((r.toNat : Nat) : Int) = r by omega] at this
  rw [show ((0 : Nat) : Int) = 0 from rfl] at this
  rw [this]; simp
theorem count_all : ∀ r : Fin 256, bits_OnesCount16.f ((r.val : Nat) : Int) = some ((ones 16 r.val : Nat) : Int) := by decide +kernel
theorem count_f {r : Int} (h : 0 ≤ r) (h2 : r ≤ 255) : bits_OnesCount16.f r = some ((ones 16 r.toNat : Nat) : Int) := by
  have := count_all ⟨r.toNat, by omega⟩
  simp only at this
  rw [show ((r.toNat : Nat) : Int) = r by omega] at this
  exact this
theorem getD_mem (l : List Int) (j : Nat) (h : j < l.length) : l.getD j 0 ∈ l := by
  rw [List.getD_eq_getElem?_getD, List.getElem?_eq_getElem h, Option.getD_some]; exact List.getElem_mem h
theorem all_at (l : List Int) (j : Nat) (h : j < l.length) (p : Int → Bool) : (l.drop j).all p = (p (l.getD j 0) && (l.drop (j + 1)).all p) := by
  rw [drop_at l j h]; rfl
theorem in_le {a r : Int} (h1 : 1 ≤ a) (h8 : a ≤ 8) (hr : 0 ≤ r ∧ r ≤ 65535) (h : inn r (full a) = true) : r ≤ 255 := by
  have := full_le h1 h8
  have h := of_decide_eq_true h
  have := andNot_zero hr.1 hr.2 (by omega) (by omega) h
  omega
theorem specOk_l0 {a b : Int} (h1 : 1 ≤ a) (h8 : a ≤ 8) (l : List Int) (hl : ∀ x ∈ l, (Lit.int .u16 x).wf = true) (hn : l.length ≤ 20) (d : Nat) : ∀ j : Nat, j + d = l.length → ∀ k, d + 20 < k →
    spec_l05Ok.l0 k j a b l = some ((l.drop j).all (okSet a)) := by
  induction d with
  | zero =>
    intro j hj k hk
    obtain ⟨k, rfl⟩ : ∃ m, k = m + 1 := ⟨k - 1, by omega⟩
    simp only [spec_l05Ok.l0]; rw [if_neg (by omega), List.drop_of_length_le (by omega)]; rfl
  | succ d ih =>
    intro j hj k hk
    obtain ⟨k, rfl⟩ : ∃ m, k = m + 1 := ⟨k - 1, by omega⟩
    have w := set_wf (hl _ (getD_mem l j (by omega)))
    simp only [spec_l05Ok.l0]
    rw [if_pos (by omega), if_pos (by omega), specAll_f h1 h8, rd_at, all_at l j (by omega)]
    simp only [Option.bind_some]
    by_cases q : Go.bits .andNot .u16 (l.getD j 0) (full a) = 0
    · rw [if_pos q, size_f w.1 w.2 k (by omega)]
      simp only [Option.bind_some]
      by_cases q2 : 2 ≤ ones 16 (l.getD j 0).toNat
      · rw [if_neg (by omega), next_i (n := l.length) (by omega) (by omega), ih (j + 1) (by omega) k (by omega)]
        simp only [okSet, inn, q, q2]; simp
      · rw [if_pos (by omega)]; simp only [okSet, q2]; simp
    · rw [if_neg q]; simp only [okSet, inn, q]; simp
theorem specOk_f {a b : Int} {l : List Int} (hl : ∀ x ∈ l, (Lit.int .u16 x).wf = true) (ha : -128 ≤ a ∧ a ≤ 127) (hb : -128 ≤ b ∧ b ≤ 127) (hn : l.length ≤ 1048576) (k : Nat) (hk : 50 < k) :
    spec_l05Ok.f k a b l = some (okF a b l) := by
  obtain ⟨k, rfl⟩ : ∃ m, k = m + 1 := ⟨k - 1, by omega⟩
  have ea : wrap64 a = a := by unfold wrap64; omega
  have eb : wrap64 b = b := by unfold wrap64; omega
  unfold spec_l05Ok.f spec_l00In.f
  rw [ea, eb]
  by_cases h1 : 1 ≤ a
  · rw [if_pos (by omega)]
    simp only [Option.bind_some]
    by_cases h8 : a ≤ 8
    · rw [if_pos (by simpa using h8)]
      by_cases g1 : 0 ≤ b
      · rw [if_pos (by omega)]
        simp only [Option.bind_some]
        by_cases g2 : b ≤ a
        · rw [if_pos (by simpa using g2)]
          simp only [spec_l05Ok.j0]
          by_cases g3 : l.length ≤ 20
          · rw [if_neg (by simp; omega)]
            have := specOk_l0 (b := b) h1 h8 l hl g3 l.length 0 (by omega) k (by omega)
            simp only [List.drop_zero] at this
            have e0 : spec_l05Ok.l0 k 0 a b l = some (l.all (okSet a)) := this
            rw [e0]; unfold okF; simp only [h1, h8, g1, g2, g3]; simp
          · rw [if_pos (by simp; omega)]; unfold okF; simp only [g3]; simp
        · rw [if_neg (by simpa using g2)]; unfold okF; simp only [g2]; simp [spec_l05Ok.j0]
      · rw [if_neg (by omega)]; unfold okF; simp only [g1]; simp [spec_l05Ok.j0]
    · rw [if_neg (by simpa using h8)]; unfold okF; simp only [h8]; simp [spec_l05Ok.j0]
  · rw [if_neg (by omega)]; unfold okF; simp only [h1]; simp [spec_l05Ok.j0]
theorem implOk_one {a b : Int} {l : List Int} {r : Int} (h1 : 1 ≤ a) (h8 : a ≤ 8) (w : 0 ≤ r ∧ r ≤ 65535) : impl_ValidFerry_1.f r a b l = some (!okSet a r) := by
  unfold impl_ValidFerry_1.f impl_inside.f
  rw [implAll_f h1 h8]
  simp only [Option.bind_some]
  by_cases q : Go.bits .andNot .u16 r (full a) = 0
  · have u := in_le h1 h8 w (by unfold inn; simpa using q)
    rw [if_pos (by simpa using q), count_f w.1 u]
    simp only [Option.bind_some, okSet, inn, q]
    by_cases q2 : 2 ≤ ones 16 r.toNat
    · have : ¬ ((ones 16 r.toNat : Nat) : Int) < 2 := by omega
      simp [q2, this]
    · have : ((ones 16 r.toNat : Nat) : Int) < 2 := by omega
      simp [q2, this]
  · rw [if_neg (by simpa using q)]; simp only [okSet, inn, q]; simp
theorem implOk_l0 {a b : Int} (h1 : 1 ≤ a) (h8 : a ≤ 8) (l : List Int) (hl : ∀ x ∈ l, (Lit.int .u16 x).wf = true) (hn : l.length ≤ 20) (d : Nat) : ∀ j : Nat, j + d = l.length → ∀ k, d < k →
    ∃ v, slices_IndexFunc_uint16_uint16_45.l0 k l l.length j a b l = some v ∧ decide (v ≥ 0) = !((l.drop j).all (okSet a)) := by
  induction d with
  | zero =>
    intro j hj k hk
    obtain ⟨k, rfl⟩ : ∃ m, k = m + 1 := ⟨k - 1, by omega⟩
    refine ⟨-1, ?_, ?_⟩
    · simp only [slices_IndexFunc_uint16_uint16_45.l0]; rw [if_neg (by omega)]
    · rw [List.drop_of_length_le (by omega)]; rfl
  | succ d ih =>
    intro j hj k hk
    obtain ⟨k, rfl⟩ : ∃ m, k = m + 1 := ⟨k - 1, by omega⟩
    have w := set_wf (hl _ (getD_mem l j (by omega)))
    simp only [slices_IndexFunc_uint16_uint16_45.l0]
    rw [if_pos (by omega), if_pos (by omega), if_pos (by omega), rd_at, implOk_one h1 h8 w, all_at l j (by omega)]
    simp only [Option.bind_some]
    by_cases q : okSet a (l.getD j 0) = true
    · rw [if_neg (by rw [q]; simp), next_i (n := l.length) (by omega) (by omega), q, Bool.true_and]
      exact ih (j + 1) (by omega) k (by omega)
    · rw [if_pos (by rw [Bool.not_eq_true] at q; rw [q]; rfl)]
      refine ⟨_, rfl, ?_⟩
      simp only [Bool.not_eq_true] at q
      rw [q]; simp
theorem implOk_f {a b : Int} {l : List Int} (hl : ∀ x ∈ l, (Lit.int .u16 x).wf = true) (ha : -128 ≤ a ∧ a ≤ 127) (hb : -128 ≤ b ∧ b ≤ 127) (hn : l.length ≤ 1048576) (k : Nat) (hk : 50 < k) :
    impl_ValidFerry.f k a b l = some (okF a b l) := by
  have ea : wrap64 a = a := by unfold wrap64; omega
  have eb : wrap64 b = b := by unfold wrap64; omega
  unfold impl_ValidFerry.f impl_within.f
  rw [ea, eb]
  by_cases h1 : 1 ≤ a
  · rw [if_pos (by omega)]
    simp only [Option.bind_some]
    by_cases h8 : a ≤ 8
    · rw [if_pos (by simpa using h8)]
      by_cases g1 : 0 ≤ b
      · rw [if_pos (by omega)]
        simp only [Option.bind_some]
        by_cases g2 : b ≤ a
        · rw [if_pos (by simpa using g2)]
          by_cases g3 : l.length ≤ 20
          · rw [if_neg (by omega)]
            unfold slices_ContainsFunc_uint16_uint16_45.f slices_IndexFunc_uint16_uint16_45.f
            obtain ⟨v, e1, e2⟩ := implOk_l0 (b := b) h1 h8 l hl g3 l.length 0 (by omega) k (by omega)
            simp only [List.drop_zero] at e2
            have e0 : slices_IndexFunc_uint16_uint16_45.l0 k l l.length 0 a b l = some v := e1
            rw [e0]
            simp only [Option.bind_some]
            rw [e2]; unfold okF; simp only [h1, h8, g1, g2, g3]; simp
          · rw [if_pos (by omega)]; unfold okF; simp only [g3]; simp
        · rw [if_neg (by simpa using g2)]; unfold okF; simp only [g2]; simp
      · rw [if_neg (by omega)]; unfold okF; simp only [g1]; simp
    · rw [if_neg (by simpa using h8)]; unfold okF; simp only [h8]; simp
  · rw [if_neg (by omega)]; unfold okF; simp only [h1]; simp

end Go.Proofs.Ytikdnhhegknplaa.X
