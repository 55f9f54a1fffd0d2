/- Fixed plans: cases, what is seen of them, and decoding, on both sides. -/
import Derived.Test.YtmfbcklaomigaaaLTBaseN
import Derived.Test.YtmfbcklaomigaaaNx10
import Derived.Test.YtmfbcklaomigaaaNx11
import Derived.Test.YtmfbcklaomigaaaNx14
import Derived.Test.YtmfbcklaomigaaaNx17
import Derived.Test.YtmfbcklaomigaaaNx18
import Derived.Test.YtmfbcklaomigaaaNx20
namespace Go.Proofs.Ytmfbcklaomigaaa.N
open Go.RowKit Go.Proofs.YtmfbcklaomigaaaW.PrintWords Go.Proofs.YtmfbcklaomigaaaW.PrintLast Go.Proofs.YtmfbcklaomigaaaW.PrintMore
set_option linter.unusedVariables false
set_option linter.unusedSimpArgs false

theorem zmb {x : Int} (h : -128 ≤ x ∧ x ≤ 127) : IntKind.i8.wrap x = x := Go.IntWalk.i8_in x h
def zbd (kd m : Int) (x : S38) : Prop := (x.f0 = -1 ∧ x.f1 = false) ∨ (0 ≤ x.f0 ∧ x.f0 < m ∧ (x.f1 = true → kd ≠ 1) ∧ (x.f1 = false → kd ≠ 0))
theorem cases_l0 (c kd : Int) (n g : Bool) (hc2 : c ≤ 13) : ∀ (k : Nat) (y : List S38) (j : Int), 0 ≤ j → j ≤ c → spec_l03Cases.l0 k y j c kd n g = impl_casesOf.l0 k kd y c j := by
  intro k
  induction k with
  | zero => intro y j _ _; rfl
  | succ k ih =>
    intro y j h0 h1
    simp only [spec_l03Cases.l0, impl_casesOf.l0]
    by_cases h : j < c
    · have ih' := fun y => ih y (j + 1) (by omega) (by omega)
      rw [if_pos h, if_pos h, zmb (x := j) (by omega), zmb (x := j + 1) (by omega), show wrap64 (j + 1) = j + 1 by unfold wrap64; omega]
      simp only [ih']
    · rw [if_neg h, if_neg h]
theorem cases_some (c kd : Int) (hc2 : c ≤ 13) : ∀ (d j : Nat) (y : List S38), (j : Int) + d = c → y.length ≤ 1 + 2 * j → 1 ≤ y.length → (∀ x ∈ y, zbd kd c x) →
    ∃ l, (∀ k, d < k → impl_casesOf.l0 k kd y c j = some l) ∧ 1 ≤ l.length ∧ l.length ≤ 27 ∧ ∀ x ∈ l, zbd kd c x := by
  intro d
  induction d with
  | zero =>
    intro j y hj hl h1 hg
    refine ⟨y, fun k hk => ?_, h1, by omega, hg⟩
    obtain ⟨k, rfl⟩ : ∃ m, k = m + 1 := ⟨k - 1, by omega⟩
    simp only [impl_casesOf.l0]; rw [if_neg (by omega)]
  | succ d ih =>
    intro j y hj hl h1 hg
    have w8 : IntKind.i8.wrap (j : Int) = j := zmb (by omega)
    have w64 : wrap64 ((j : Int) + 1) = ((j + 1 : Nat) : Int) := by unfold wrap64; omega
    have gj : ∀ b, (b = true → kd ≠ 1) → (b = false → kd ≠ 0) → zbd kd c ⟨j, b⟩ := fun b h1 h2 => .inr ⟨by show 0 ≤ (j : Int); omega, by show (j : Int) < c; omega, h1, h2⟩
    by_cases k1 : kd = 1
    · obtain ⟨l, e, r⟩ := ih (j + 1) (y ++ [⟨j, false⟩]) (by omega) (by simp; omega) (by simp) (by intro x hx; rcases List.mem_append.mp hx with h | h; exact hg x h; simp at h; subst h; exact gj false (by simp) (fun _ => by omega))
      refine ⟨l, fun k hk => ?_, r⟩
      obtain ⟨k, rfl⟩ : ∃ m, k = m + 1 := ⟨k - 1, by omega⟩
      simp only [impl_casesOf.l0]
      rw [if_pos (by omega), if_pos k1, if_neg (by omega), if_pos (by omega), w8, w64]
      exact e k (by omega)
    · by_cases k0 : kd = 0
      · obtain ⟨l, e, r⟩ := ih (j + 1) (y ++ [⟨j, true⟩]) (by omega) (by simp; omega) (by simp) (by intro x hx; rcases List.mem_append.mp hx with h | h; exact hg x h; simp at h; subst h; exact gj true (fun _ => k1) (by simp))
        refine ⟨l, fun k hk => ?_, r⟩
        obtain ⟨k, rfl⟩ : ∃ m, k = m + 1 := ⟨k - 1, by omega⟩
        simp only [impl_casesOf.l0, Option.bind_some]
        rw [if_pos (by omega), if_neg k1, if_pos (by omega), if_pos k0, w8, w64]
        exact e k (by omega)
      · obtain ⟨l, e, r⟩ := ih (j + 1) (y ++ [⟨j, true⟩] ++ [⟨j, false⟩]) (by omega) (by simp; omega) (by simp) (by
          intro x hx
          rcases List.mem_append.mp hx with h | h
          · rcases List.mem_append.mp h with h | h
            · exact hg x h
            · simp at h; subst h; exact gj true (fun _ => k1) (by simp)
          · simp at h; subst h; exact gj false (by simp) (fun _ => k0))
        refine ⟨l, fun k hk => ?_, r⟩
        obtain ⟨k, rfl⟩ : ∃ m, k = m + 1 := ⟨k - 1, by omega⟩
        simp only [impl_casesOf.l0, Option.bind_some]
        rw [if_pos (by omega), if_neg k1, if_pos (by omega), if_neg k0, if_pos (by simp; omega), w8, w64]
        exact e k (by omega)
theorem cases_f (a kd : Int) (l : List S43) (hn : 1 ≤ l.length ∧ l.length ≤ 13) : ∃ L : List S38, (∀ k, 20 < k → spec_l04Cases.f k a kd l = some L ∧ impl_Fixed_cases.f k a kd l = some L) ∧ 1 ≤ L.length ∧ L.length ≤ 27 ∧ ∀ x ∈ L, zbd kd l.length x := by
  have w8 : IntKind.i8.wrap (l.length : Int) = l.length := zmb (by omega)
  obtain ⟨L, e, r⟩ := cases_some (l.length : Int) kd (by omega) l.length 0 [⟨-1, false⟩] (by omega) (by simp) (by simp) (by intro x hx; simp at hx; subst hx; exact .inl ⟨rfl, rfl⟩)
  refine ⟨L, fun k hk => ?_, r⟩
  obtain ⟨k, rfl⟩ : ∃ m, k = m + 1 := ⟨k - 1, by omega⟩
  have e0 : impl_casesOf.l0 k kd [⟨-1, false⟩] (l.length : Int) 0 = some L := e k (by omega)
  unfold spec_l04Cases.f impl_Fixed_cases.f spec_l03Cases.f impl_casesOf.f impl_Word_46.f
  simp only [Option.bind_some, if_true, List.nil_append, List.length_nil, w8]
  rw [if_pos (by decide), if_pos (by decide)]
  simp only [spec_l03Cases.j0, impl_casesOf.j0]
  rw [cases_l0 (l.length : Int) kd true false (by omega) k _ 0 (by omega) (by omega), e0]
  exact ⟨rfl, rfl⟩
theorem opp_f (p q r s : Int) (k : Nat) (hk : 5 < k) : spec_l04Opposite.f k p q r s = some (IntKind.i8.wrap (-p), IntKind.i8.wrap (-q), IntKind.i8.wrap (-r), IntKind.i8.wrap (-s)) ∧ impl_OppositeWord.f k p q r s = some (IntKind.i8.wrap (-p), IntKind.i8.wrap (-q), IntKind.i8.wrap (-r), IntKind.i8.wrap (-s)) := by
  obtain ⟨k, rfl⟩ : ∃ m, k = m + 1 + 1 + 1 + 1 + 1 := ⟨k - 5, by omega⟩
  unfold spec_l04Opposite.f impl_OppositeWord.f
  constructor
  · rw [spec_l04Opposite.l0.eq_2, if_pos (by decide), if_pos (by decide), wn_0, spec_l04Opposite.l0.eq_2, if_pos (by decide), if_pos (by decide), wn_1, spec_l04Opposite.l0.eq_2, if_pos (by decide), if_pos (by decide), wn_2, spec_l04Opposite.l0.eq_2, if_pos (by decide), if_pos (by decide), wn_3, spec_l04Opposite.l0.eq_2, if_neg (by decide)]
    rfl
  · rw [impl_OppositeWord.l0.eq_2, if_pos (by decide), if_pos (by decide), wn_0, impl_OppositeWord.l0.eq_2, if_pos (by decide), if_pos (by decide), wn_1, impl_OppositeWord.l0.eq_2, if_pos (by decide), if_pos (by decide), wn_2, impl_OppositeWord.l0.eq_2, if_pos (by decide), if_pos (by decide), wn_3, impl_OppositeWord.l0.eq_2, if_neg (by decide)]
    rfl
theorem seen_f (a kd : Int) (l : List S43) (x : Int) (b : Bool) (hx : x < l.length) : ∃ t : Int × Int × Int × Int, ∀ k, 10 < k → spec_l04Seen.f k a kd l x b = some t ∧ impl_Fixed_seen.f k a kd l x b = some t := by
  by_cases c : x < 0
  · refine ⟨(0, 0, 0, 0), fun k hk => ?_⟩
    unfold spec_l04Seen.f impl_Fixed_seen.f
    rw [if_pos c, if_pos c]; exact ⟨rfl, rfl⟩
  · cases b with
    | true =>
      refine ⟨((zx l x).f0, (zx l x).f1, (zx l x).f2, (zx l x).f3), fun k hk => ?_⟩
      unfold spec_l04Seen.f impl_Fixed_seen.f
      rw [if_neg c, if_neg c, if_pos rfl, if_pos rfl, if_pos (show 0 ≤ x by omega), if_pos hx]
      exact ⟨rfl, rfl⟩
    | false =>
      refine ⟨(IntKind.i8.wrap (-(zx l x).f0), IntKind.i8.wrap (-(zx l x).f1), IntKind.i8.wrap (-(zx l x).f2), IntKind.i8.wrap (-(zx l x).f3)), fun k hk => ?_⟩
      unfold spec_l04Seen.f impl_Fixed_seen.f
      rw [if_neg c, if_neg c, if_neg (show ¬ (false = true) by decide), if_neg (show ¬ (false = true) by decide), if_pos (show 0 ≤ x by omega), if_pos hx, if_pos (show 0 ≤ x by omega), if_pos hx, (opp_f _ _ _ _ k (by omega)).1, (opp_f _ _ _ _ k (by omega)).2]
      exact ⟨rfl, rfl⟩

end Go.Proofs.Ytmfbcklaomigaaa.N
