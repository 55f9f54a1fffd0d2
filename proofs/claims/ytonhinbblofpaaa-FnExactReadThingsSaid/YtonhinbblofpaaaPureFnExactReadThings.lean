/- Proved: the program's ReadThings answers as the reference's for every text. No conditions. -/
import Derived.Test.YtonhinbblofpaaaMx4
namespace Go.Proofs.Ytonhinbblofpaaa.Pure
open Go.RowKit Go.Proofs.Ytonhinbblofpaaa.M Go.Proofs.YtonhinbblofpaaaW.PrintWords Go.Proofs.YtonhinbblofpaaaW.PrintLast Go.Proofs.YtonhinbblofpaaaW.PrintMore
set_option linter.unusedVariables false
set_option linter.unusedSimpArgs false

theorem bit_same : ∀ (x : Fin 256) (j : Fin 8), (Int.tmod (shr .u16 (x.val : Int) (IntKind.u64.wrap (j.val : Int))) 2 = 1) ↔ (Go.bits .and .u64 (shr .u64 (x.val : Int) (j.val : Int)) 1 = 1) := by decide +kernel
theorem lett_same : ∀ (j : Fin 8), (wrap64 (97 + (j.val : Int))) % 256 = (IntKind.i8.wrap (97 + (j.val : Int))) % 256 := by decide +kernel
theorem u64_j : ∀ (j : Fin 8), 0 ≤ IntKind.u64.wrap (j.val : Int) := by decide +kernel
theorem next64 : ∀ (j : Fin 8), wrap64 ((j.val : Int) + 1) = ((j.val + 1 : Nat) : Int) := by decide +kernel
theorem next8 : ∀ (j : Fin 64), IntKind.i8.wrap ((j.val : Int) + 1) = ((j.val + 1 : Nat) : Int) := by decide +kernel
theorem bit_high (x : Fin 256) (j : Nat) (hj : 8 ≤ j) (hj2 : j < 64) : ¬ Go.bits .and .u64 (shr .u64 (x.val : Int) (j : Int)) 1 = 1 := by
  have h : shr .u64 (x.val : Int) (j : Int) = 0 := by
    unfold shr
    refine Int.ediv_eq_zero_of_lt (by omega) ?_
    have e : min ((j : Int)).toNat IntKind.u64.bits = j := by
      have : IntKind.u64.bits = 64 := rfl
      omega
    rw [e]
    have h2 : (2 : Int) ^ 8 ≤ 2 ^ j := by exact_mod_cast Nat.pow_le_pow_right (by decide) hj
    have := x.isLt
    omega
  rw [h]
  decide +kernel

theorem txt_tail (x : Fin 256) (s : ByteArray) (d : Nat) : ∀ (j : Nat), j + d = 64 → 8 ≤ j → ∀ k, d < k → impl_setText.l0 k x.val s j = some s := by
  induction d with
  | zero =>
    intro j hj _ k hk
    obtain ⟨k, rfl⟩ : ∃ m, k = m + 1 := ⟨k - 1, by omega⟩
    simp only [impl_setText.l0]; rw [if_neg (by omega)]
  | succ d ih =>
    intro j hj h8 k hk
    obtain ⟨k, rfl⟩ : ∃ m, k = m + 1 := ⟨k - 1, by omega⟩
    simp only [impl_setText.l0]
    rw [if_pos (by omega), if_pos (by omega), if_neg (bit_high x j h8 (by omega)), next8 ⟨j, by omega⟩]
    exact ih (j + 1) (by omega) (by omega) k (by omega)

theorem txt_both (x : Fin 256) (d : Nat) : ∀ (j : Nat) (s : ByteArray), j + d = 8 → s.size ≤ j →
    ∃ r : ByteArray, (∀ k, d < k → spec_l05Text.l0 k x.val s j = some r) ∧ (∀ k, d + 56 < k → impl_setText.l0 k x.val s j = some r) := by
  induction d with
  | zero =>
    intro j s hj hs
    obtain rfl : j = 8 := by omega
    refine ⟨s, fun k hk => ?_, fun k hk => txt_tail x s 56 8 rfl (by omega) k (by omega)⟩
    obtain ⟨k, rfl⟩ : ∃ m, k = m + 1 := ⟨k - 1, by omega⟩
    simp only [spec_l05Text.l0]; rw [if_neg (by omega)]
  | succ d ih =>
    intro j s hj hs
    have hb := bit_same x ⟨j, by omega⟩
    have hl := lett_same ⟨j, by omega⟩
    have hu := u64_j ⟨j, by omega⟩
    have hn := next64 ⟨j, by omega⟩
    have hn8 := next8 ⟨j, by omega⟩
    simp only at hb hl hu hn hn8
    have hsz : (strOfNums [(wrap64 (97 + (j : Int))) % 256]).size = 1 := rfl
    by_cases c : Go.bits .and .u64 (shr .u64 (x.val : Int) (j : Int)) 1 = 1
    · obtain ⟨r, h1, h2⟩ := ih (j + 1) (s ++ strOfNums [(wrap64 (97 + (j : Int))) % 256]) (by omega) (by rw [ByteArray.size_append, hsz]; omega)
      refine ⟨r, fun k hk => ?_, fun k hk => ?_⟩
      · obtain ⟨k, rfl⟩ : ∃ m, k = m + 1 := ⟨k - 1, by omega⟩
        simp only [spec_l05Text.l0]
        rw [if_pos (by omega), if_pos hu, if_pos (hb.2 c)]
        simp only [Option.bind_some]
        rw [if_pos (by rw [hsz]; omega), hn]
        exact h1 k (by omega)
      · obtain ⟨k, rfl⟩ : ∃ m, k = m + 1 := ⟨k - 1, by omega⟩
        simp only [impl_setText.l0]
        rw [if_pos (by omega), if_pos (by omega), if_pos c]
        simp only [impl_letter.f, Option.bind_some]
        rw [← hl, if_pos (by rw [hsz]; omega), hn8]
        exact h2 k (by omega)
    · obtain ⟨r, h1, h2⟩ := ih (j + 1) s (by omega) (by omega)
      refine ⟨r, fun k hk => ?_, fun k hk => ?_⟩
      · obtain ⟨k, rfl⟩ : ∃ m, k = m + 1 := ⟨k - 1, by omega⟩
        simp only [spec_l05Text.l0]
        rw [if_pos (by omega), if_pos hu, if_neg (fun h => c (hb.1 h)), hn]
        exact h1 k (by omega)
      · obtain ⟨k, rfl⟩ : ∃ m, k = m + 1 := ⟨k - 1, by omega⟩
        simp only [impl_setText.l0]
        rw [if_pos (by omega), if_pos (by omega), if_neg c, hn8]
        exact h2 k (by omega)


def okB (b : Int) : Bool := decide (97 ≤ b ∧ b < 105)
def goodB (r : ByteArray) : Bool := (r.data.toList == [45]) || (List.range r.size).all fun j => okB (bt r (j : Int))
def goodText (x : Nat) : Bool := match impl_setText.f 100 (x : Int) with
  | some r => goodB r
  | none => false
theorem good_all : ∀ x : Fin 256, goodText x.val = true := by decide +kernel
/-- Both sides' text of a set, and what it is made of. -/
theorem text_of (x : Nat) (hx : x < 256) : ∃ r : ByteArray, (∀ k, 70 < k → spec_l05Text.f k x = some r) ∧ (∀ k, 70 < k → impl_setText.f k x = some r) ∧ goodB r = true := by
  have g := good_all ⟨x, hx⟩
  simp only [goodText] at g
  by_cases h : x = 0
  · subst h
    have e1 : ∀ k, spec_l05Text.f k ((0 : Nat) : Int) = some ⟨#[45]⟩ := by intro k; rfl
    have e2 : ∀ k, impl_setText.f k ((0 : Nat) : Int) = some ⟨#[45]⟩ := by intro k; rfl
    exact ⟨_, fun k _ => e1 k, fun k _ => e2 k, by decide⟩
  · obtain ⟨r, h1, h2⟩ := txt_both ⟨x, hx⟩ 8 0 ⟨#[]⟩ rfl (Nat.le_refl 0)
    have f1 : ∀ k, 70 < k → spec_l05Text.f k x = some r := fun k hk => by
      unfold spec_l05Text.f; rw [if_neg (by omega)]; exact h1 k (by omega)
    have f2 : ∀ k, 70 < k → impl_setText.f k x = some r := fun k hk => by
      unfold impl_setText.f; rw [if_neg (by omega)]; exact h2 k (by omega)
    rw [f2 100 (by omega)] at g
    exact ⟨r, f1, f2, g⟩
theorem or_all : ∀ (x : Fin 256) (c : Fin 8), Go.bits .or .u16 ((x.val : Nat) : Int) (shl .u16 1 ((c.val : Nat) : Int)) = Go.bits .or .u64 ((x.val : Nat) : Int) (shl .u64 1 ((c.val : Nat) : Int)) ∧
    0 < Go.bits .or .u64 ((x.val : Nat) : Int) (shl .u64 1 ((c.val : Nat) : Int)) ∧ Go.bits .or .u64 ((x.val : Nat) : Int) (shl .u64 1 ((c.val : Nat) : Int)) < 256 := by decide +kernel
def orB (x : Nat) (b : Int) : Nat := (Go.bits .or .u64 (x : Int) (shl .u64 1 (b - 97))).toNat
theorem orB_of {x : Nat} {b : Int} (hx : x < 256) (hb : okB b = true) : Go.bits .or .u16 (x : Int) (shl .u16 1 (b - 97)) = (orB x b : Int) ∧ Go.bits .or .u64 (x : Int) (shl .u64 1 (b - 97)) = (orB x b : Int) ∧ 0 < orB x b ∧ orB x b < 256 := by
  have w := of_decide_eq_true hb
  have := or_all ⟨x, hx⟩ ⟨(b - 97).toNat, by omega⟩
  simp only at this
  rw [show (((b - 97).toNat : Nat) : Int) = b - 97 by omega] at this
  unfold orB
  refine ⟨?_, ?_, ?_, ?_⟩
  · rw [this.1]; omega
  · omega
  · omega
  · omega
def maskF (a : ByteArray) : Nat → Nat → Nat → Nat
  | 0, _, x => x
  | d + 1, j, x => maskF a d (j + 1) (if okB (bt a (j : Int)) = true then orB x (bt a (j : Int)) else x)
theorem maskF_lt (a : ByteArray) (d : Nat) : ∀ j x, x < 256 → maskF a d j x < 256 := by
  induction d with
  | zero => intro j x h; exact h
  | succ d ih =>
    intro j x h
    simp only [maskF]
    apply ih
    split
    · next g => exact (orB_of h g).2.2.2
    · exact h
def allOk (a : ByteArray) : Nat → Nat → Prop
  | 0, _ => True
  | d + 1, j => okB (bt a (j : Int)) = true ∧ allOk a d (j + 1)
theorem maskF_pos (a : ByteArray) (d : Nat) : ∀ j x, x < 256 → allOk a d j → (0 < x ∨ 0 < d) → 0 < maskF a d j x := by
  induction d with
  | zero => intro j x _ _ h; simp only [maskF]; omega
  | succ d ih =>
    intro j x hx h _
    simp only [maskF]
    rw [if_pos h.1]
    have o := orB_of hx h.1
    exact ih (j + 1) _ o.2.2.2 h.2 (.inl o.2.2.1)
theorem next_i {j n : Nat} (h : j < n) (hn : n ≤ 140737488355328) : wrap64 ((j : Int) + 1) = ((j + 1 : Nat) : Int) := by
  unfold wrap64; omega
theorem impl_l0 (a : ByteArray) (hs : a.size ≤ 1048576) (d : Nat) : ∀ (j x : Nat), j + d = a.size → x < 256 → ∀ k, d < k →
    ∃ k', k ≤ k' + d + 1 ∧ impl_readSet.l0 k a 8 x a.size j = (impl_setText.f k' (maskF a d j x : Nat)).bind fun t => some (((maskF a d j x : Nat) : Int), (t.toList == a.toList)) := by
  induction d with
  | zero =>
    intro j x hj hx k hk
    obtain ⟨k, rfl⟩ : ∃ m, k = m + 1 := ⟨k - 1, by omega⟩
    refine ⟨k, by omega, ?_⟩
    simp only [impl_readSet.l0]; rw [if_neg (by omega)]; rfl
  | succ d ih =>
    intro j x hj hx k hk
    obtain ⟨k, rfl⟩ : ∃ m, k = m + 1 := ⟨k - 1, by omega⟩
    have r := bt_range a j
    have e : wrap64 (wrap64 (bt a (j : Int)) - 97) = bt a (j : Int) - 97 := by unfold wrap64; omega
    simp only [impl_readSet.l0, maskF]
    rw [if_pos (by omega), if_pos (by omega), if_pos (by omega), e, next_i (n := a.size) (by omega) (by omega)]
    by_cases g : okB (bt a (j : Int)) = true
    · have w := of_decide_eq_true g
      have o := orB_of hx g
      rw [if_pos (show bt a (j : Int) - 97 ≥ 0 by omega), if_pos (by omega), if_pos (by omega), o.2.1, if_pos g]
      obtain ⟨k', h1, h2⟩ := ih (j + 1) (orB x (bt a (j : Int))) (by omega) o.2.2.2 k (by omega)
      exact ⟨k', by omega, h2⟩
    · rw [if_neg g]
      have w : ¬ (97 ≤ bt a (j : Int) ∧ bt a (j : Int) < 105) := fun h => g (decide_eq_true h)
      obtain ⟨k', h1, h2⟩ := ih (j + 1) x (by omega) hx k (by omega)
      refine ⟨k', by omega, ?_⟩
      by_cases c : bt a (j : Int) - 97 ≥ 0
      · rw [if_pos c, if_neg (by omega)]; exact h2
      · rw [if_neg c]; exact h2
theorem spec_l0 (a : ByteArray) (hs : a.size ≤ 1048576) (d : Nat) : ∀ (j x : Nat), j + d = a.size → x < 256 → ∀ k, d < k →
    (allOk a d j → ∃ k', k ≤ k' + d + 1 ∧ spec_l05Read.l0 k a x j = if a.toList = ([] : List UInt8) then some (((maskF a d j x : Nat) : Int), false) else (spec_l05Text.f k' (maskF a d j x : Nat)).bind fun t => some (((maskF a d j x : Nat) : Int), (t.toList == a.toList))) ∧
    (¬ allOk a d j → spec_l05Read.l0 k a x j = some (0, false) ∧ ∃ q, q < a.size ∧ okB (bt a (q : Nat)) = false) := by
  induction d with
  | zero =>
    intro j x hj hx k hk
    obtain ⟨k, rfl⟩ : ∃ m, k = m + 1 := ⟨k - 1, by omega⟩
    refine ⟨fun _ => ⟨k, by omega, ?_⟩, fun h => absurd trivial h⟩
    simp only [spec_l05Read.l0]; rw [if_neg (by omega)]; rfl
  | succ d ih =>
    intro j x hj hx k hk
    obtain ⟨k, rfl⟩ : ∃ m, k = m + 1 := ⟨k - 1, by omega⟩
    have r := bt_range a j
    simp only [spec_l05Read.l0, maskF, allOk]
    rw [if_pos (by omega), if_pos (by omega), next_i (n := a.size) (by omega) (by omega)]
    by_cases g : okB (bt a (j : Int)) = true
    · have w := of_decide_eq_true g
      have o := orB_of hx g
      rw [if_neg (by omega), if_neg (by omega), show (bt a (j : Int) - 97) % 256 = bt a (j : Int) - 97 by omega, o.1, if_pos g]
      obtain ⟨i1, i2⟩ := ih (j + 1) (orB x (bt a (j : Int))) (by omega) o.2.2.2 k (by omega)
      refine ⟨fun h => ?_, fun h => i2 fun h' => h ⟨g, h'⟩⟩
      obtain ⟨k', h1, h2⟩ := i1 h.2
      exact ⟨k', by omega, h2⟩
    · have w : ¬ (97 ≤ bt a (j : Int) ∧ bt a (j : Int) < 105) := fun h => g (decide_eq_true h)
      refine ⟨fun h => absurd h.1 g, fun _ => ⟨?_, j, by omega, by simpa using g⟩⟩
      by_cases c : bt a (j : Int) < 97
      · rw [if_pos c]
      · rw [if_neg c, if_pos (by omega)]
theorem eq_of_toList {a b : ByteArray} (h : a.toList = b.toList) : a = b := by
  rw [ByteArray.toList_eq, ByteArray.toList_eq] at h
  cases a; cases b
  congr 1
  exact Array.toList_inj.1 h
theorem dash : ∀ k, impl_readSet.f (k + 2) ⟨#[45]⟩ 8 = some (0, true) := by
  intro k
  have h := impl_l0 ⟨#[45]⟩ (by decide) 1 0 0 (by decide) (by omega) (k + 2) (by omega)
  obtain ⟨k', _, h⟩ := h
  have e : impl_readSet.f (k + 2) ⟨#[45]⟩ 8 = _ := h
  rw [e]
  have m : maskF ⟨#[45]⟩ 1 0 0 = 0 := by decide
  rw [m]
  have t : impl_setText.f k' ((0 : Nat) : Int) = some ⟨#[45]⟩ := rfl
  rw [t]
  simp
theorem both (a : ByteArray) (hs : a.size ≤ 1048576) (k : Nat) (hk : 1048700 < k) : ∃ v, spec_ReadThings.f k a = some v ∧ impl_ReadThings.f k a = some v := by
  unfold spec_ReadThings.f impl_ReadThings.f spec_l05Read.f
  by_cases c : a.toList = ([45] : List UInt8)
  · rw [if_pos c]
    have e : a = ⟨#[45]⟩ := eq_of_toList (by rw [c, ByteArray.toList_eq])
    obtain ⟨k, rfl⟩ : ∃ m, k = m + 2 := ⟨k - 2, by omega⟩
    rw [e, dash k]
    exact ⟨(0, 0), rfl, rfl⟩
  · rw [if_neg c]
    have ml := maskF_lt a a.size 0 0 (by omega)
    obtain ⟨r, t1, t2, g⟩ := text_of (maskF a a.size 0 0) ml
    obtain ⟨k', h1, h2⟩ := impl_l0 a hs a.size 0 0 (by omega) (by omega) k (by omega)
    have h2' : impl_readSet.f k a 8 = _ := h2
    rw [h2', t2 k' (by omega)]
    obtain ⟨s1, s2⟩ := spec_l0 a hs a.size 0 0 (by omega) (by omega) k (by omega)
    by_cases o : allOk a a.size 0
    · obtain ⟨k2, h3, h4⟩ := s1 o
      have h4' : spec_l05Read.l0 k a 0 0 = _ := h4
      rw [h4']
      by_cases z : a.toList = ([] : List UInt8)
      · rw [if_pos z]
        have sz : a.size = 0 := by
          rw [ByteArray.toList_eq] at z
          have := congrArg List.length z
          simpa using this
        have m0 : maskF a a.size 0 0 = 0 := by rw [sz]; rfl
        have r0 : r = ⟨#[45]⟩ := by
          have := t2 100 (by omega)
          rw [m0] at this
          have q : impl_setText.f 100 ((0 : Nat) : Int) = some ⟨#[45]⟩ := rfl
          rw [q] at this
          exact (Option.some.inj this).symm
        have b : ((⟨#[45]⟩ : ByteArray).toList == a.toList) = false := by rw [z, ByteArray.toList_eq]; rfl
        rw [r0]
        simp only [Option.bind_some, b]
        exact ⟨(0, 5), rfl, rfl⟩
      · rw [if_neg z, t1 k2 (by omega)]
        simp only [Option.bind_some]
        cases (r.toList == a.toList)
        · exact ⟨(0, 5), rfl, rfl⟩
        · simp only [if_true]
          rw [show IntKind.u16.wrap ((maskF a a.size 0 0 : Nat) : Int) = ((maskF a a.size 0 0 : Nat) : Int) by
            simp only [IntKind.wrap, IntKind.bits, IntKind.signed, Bool.false_and, Bool.false_eq_true, if_false]; omega]
          exact ⟨_, rfl, rfl⟩
    · obtain ⟨h5, q, hq, bad⟩ := s2 o
      have h5' : spec_l05Read.l0 k a 0 0 = _ := h5
      rw [h5']
      have b : (r.toList == a.toList) = false := by
        rw [beq_eq_false_iff_ne]
        intro e
        have e := eq_of_toList e
        subst e
        unfold goodB at g
        rw [Bool.or_eq_true] at g
        rcases g with g | g
        · exact c (by rw [ByteArray.toList_eq]; exact eq_of_beq g)
        · have := List.all_eq_true.1 g q (List.mem_range.2 hq)
          rw [bad] at this
          exact absurd this (by simp)
      simp only [Option.bind_some, b]
      exact ⟨(0, 5), rfl, rfl⟩
theorem FnExactReadThings : laws_FnExactReadThings.Pure := by
  intro a _
  refine ⟨1048701, ?_⟩
  unfold laws_FnExactReadThings.f
  by_cases big : (a.size : Int) > 1048576
  · rw [if_pos big]
  · rw [if_neg big]
    obtain ⟨v, s, i⟩ := both a (by omega) 1048701 (by omega)
    rw [s, i]
    simp

end Go.Proofs.Ytonhinbblofpaaa.Pure
