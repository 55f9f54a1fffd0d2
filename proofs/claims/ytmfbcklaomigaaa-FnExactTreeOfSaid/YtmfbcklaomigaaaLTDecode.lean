/- Fixed plans: cases, what is seen of them, and decoding, on both sides. -/
import Derived.Test.YtmfbcklaomigaaaLTBase
import Derived.Test.YtmfbcklaomigaaaMx1
import Derived.Test.YtmfbcklaomigaaaMx11
import Derived.Test.YtmfbcklaomigaaaMx13
import Derived.Test.YtmfbcklaomigaaaMx22
namespace Go.Proofs.Ytmfbcklaomigaaa.M
open Go.RowKit Go.Proofs.YtmfbcklaomigaaaW.PrintWords Go.Proofs.YtmfbcklaomigaaaW.PrintLast Go.Proofs.YtmfbcklaomigaaaW.PrintMore
set_option linter.unusedVariables false
set_option linter.unusedSimpArgs false
theorem zmd {x : Int} (h : -128 ≤ x ∧ x ≤ 127) : IntKind.i8.wrap x = x := Go.IntWalk.i8_in x h
def zsc (m : Int) (x : S38) : Prop := -1 ≤ x.f0 ∧ x.f0 < m
theorem cases_l0 (c kd : Int) (n g : Bool) (hc2 : c ≤ 13) : ∀ (k : Nat) (y : List S38) (j : Int), 0 ≤ j → j ≤ c → spec_l03Cases.l0 k y j c kd n g = impl_casesOf.l0 k kd y c j := by
  intro k
  induction k with
  | zero => intro y j _ _; rfl
  | succ k ih =>
    intro y j h0 h1
    simp only [spec_l03Cases.l0, impl_casesOf.l0]
    by_cases h : j < c
    · have ih' := fun y => ih y (j + 1) (by omega) (by omega)
      rw [if_pos h, if_pos h, zmd (x := j) (by omega), zmd (x := j + 1) (by omega), show wrap64 (j + 1) = j + 1 by unfold wrap64; omega]
      simp only [ih']
    · rw [if_neg h, if_neg h]
theorem cases_some (c kd : Int) (hc2 : c ≤ 13) : ∀ (d j : Nat) (y : List S38), (j : Int) + d = c → y.length ≤ 1 + 2 * j → (∀ x ∈ y, zsc c x) →
    ∃ l, (∀ k, d < k → impl_casesOf.l0 k kd y c j = some l) ∧ l.length ≤ 27 ∧ ∀ x ∈ l, zsc c x := by
  intro d
  induction d with
  | zero =>
    intro j y hj hl hg
    refine ⟨y, fun k hk => ?_, by omega, hg⟩
    obtain ⟨k, rfl⟩ : ∃ m, k = m + 1 := ⟨k - 1, by omega⟩
    simp only [impl_casesOf.l0]; rw [if_neg (by omega)]
  | succ d ih =>
    intro j y hj hl hg
    have w8 : IntKind.i8.wrap (j : Int) = j := zmd (by omega)
    have w64 : wrap64 ((j : Int) + 1) = ((j + 1 : Nat) : Int) := by unfold wrap64; omega
    have gj : ∀ b, zsc c ⟨j, b⟩ := fun b => ⟨by show -1 ≤ (j : Int); omega, by show (j : Int) < c; omega⟩
    by_cases k1 : kd = 1
    · obtain ⟨l, e, r⟩ := ih (j + 1) (y ++ [⟨j, false⟩]) (by omega) (by simp; omega) (by intro x hx; rcases List.mem_append.mp hx with h | h; exact hg x h; simp at h; subst h; exact gj false)
      refine ⟨l, fun k hk => ?_, r⟩
      obtain ⟨k, rfl⟩ : ∃ m, k = m + 1 := ⟨k - 1, by omega⟩
      simp only [impl_casesOf.l0]
      rw [if_pos (by omega), if_pos k1, if_neg (by omega), if_pos (by omega), w8, w64]
      exact e k (by omega)
    · by_cases k0 : kd = 0
      · obtain ⟨l, e, r⟩ := ih (j + 1) (y ++ [⟨j, true⟩]) (by omega) (by simp; omega) (by intro x hx; rcases List.mem_append.mp hx with h | h; exact hg x h; simp at h; subst h; exact gj true)
        refine ⟨l, fun k hk => ?_, r⟩
        obtain ⟨k, rfl⟩ : ∃ m, k = m + 1 := ⟨k - 1, by omega⟩
        simp only [impl_casesOf.l0, Option.bind_some]
        rw [if_pos (by omega), if_neg k1, if_pos (by omega), if_pos k0, w8, w64]
        exact e k (by omega)
      · obtain ⟨l, e, r⟩ := ih (j + 1) (y ++ [⟨j, true⟩] ++ [⟨j, false⟩]) (by omega) (by simp; omega) (by
          intro x hx
          rcases List.mem_append.mp hx with h | h
          · rcases List.mem_append.mp h with h | h
            · exact hg x h
            · simp at h; subst h; exact gj true
          · simp at h; subst h; exact gj false)
        refine ⟨l, fun k hk => ?_, r⟩
        obtain ⟨k, rfl⟩ : ∃ m, k = m + 1 := ⟨k - 1, by omega⟩
        simp only [impl_casesOf.l0, Option.bind_some]
        rw [if_pos (by omega), if_neg k1, if_pos (by omega), if_neg k0, if_pos (by simp; omega), w8, w64]
        exact e k (by omega)
theorem cases_f (a kd : Int) (l : List S43) (hn : 1 ≤ l.length ∧ l.length ≤ 13) : ∃ L : List S38, (∀ k, 20 < k → spec_l04Cases.f k a kd l = some L ∧ impl_Fixed_cases.f k a kd l = some L) ∧ L.length ≤ 27 ∧ ∀ x ∈ L, zsc l.length x := by
  have w8 : IntKind.i8.wrap (l.length : Int) = l.length := zmd (by omega)
  obtain ⟨L, e, r⟩ := cases_some (l.length : Int) kd (by omega) l.length 0 [⟨-1, false⟩] (by omega) (by simp) (by intro x hx; simp at hx; subst hx; exact ⟨by decide, by show (-1 : Int) < l.length; omega⟩)
  refine ⟨L, fun k hk => ?_, r⟩
  obtain ⟨k, rfl⟩ : ∃ m, k = m + 1 := ⟨k - 1, by omega⟩
  have e0 : impl_casesOf.l0 k kd [⟨-1, false⟩] (l.length : Int) 0 = some L := e k (by omega)
  unfold spec_l04Cases.f impl_Fixed_cases.f spec_l03Cases.f impl_casesOf.f impl_Word_46.f
  simp only [Option.bind_some, if_true, List.nil_append, List.length_nil, w8]
  rw [if_pos (by decide), if_pos (by decide)]
  simp only [spec_l03Cases.j0, impl_casesOf.j0]
  rw [cases_l0 (l.length : Int) kd true false (by omega) k _ 0 (by omega) (by omega), e0]
  exact ⟨rfl, rfl⟩
theorem opp_f (p q r s : Int) (k : Nat) (hk : 5 < k) : spec_l04Opposite.f k p q r s = some (IntKind.i8.wrap (-p), IntKind.i8.wrap (-q), IntKind.i8.wrap (-r), IntKind.i8.wrap (-s)) ∧ impl_OppositeWord.f k p q r s = some (IntKind.i8.wrap (-p), IntKind.i8.wrap (-q), IntKind.i8.wrap (-r), IntKind.i8.wrap (-s)) := by
  obtain ⟨k, rfl⟩ : ∃ m, k = m + 1 + 1 + 1 + 1 + 1 := ⟨k - 5, by omega⟩
  unfold spec_l04Opposite.f impl_OppositeWord.f
  constructor
  · rw [spec_l04Opposite.l0.eq_2, if_pos (by decide), if_pos (by decide), wn_0, spec_l04Opposite.l0.eq_2, if_pos (by decide), if_pos (by decide), wn_1, spec_l04Opposite.l0.eq_2, if_pos (by decide), if_pos (by decide), wn_2, spec_l04Opposite.l0.eq_2, if_pos (by decide), if_pos (by decide), wn_3, spec_l04Opposite.l0.eq_2, if_neg (by decide)]
    rfl
  · rw [impl_OppositeWord.l0.eq_2, if_pos (by decide), if_pos (by decide), wn_0, impl_OppositeWord.l0.eq_2, if_pos (by decide), if_pos (by decide), wn_1, impl_OppositeWord.l0.eq_2, if_pos (by decide), if_pos (by decide), wn_2, impl_OppositeWord.l0.eq_2, if_pos (by decide), if_pos (by decide), wn_3, impl_OppositeWord.l0.eq_2, if_neg (by decide)]
    rfl
theorem seen_f (a kd : Int) (l : List S43) (x : Int) (b : Bool) (hx : x < l.length) : ∃ t : Int × Int × Int × Int, ∀ k, 10 < k → spec_l04Seen.f k a kd l x b = some t ∧ impl_Fixed_seen.f k a kd l x b = some t := by
  by_cases c : x < 0
  · refine ⟨(0, 0, 0, 0), fun k hk => ?_⟩
    unfold spec_l04Seen.f impl_Fixed_seen.f
    rw [if_pos c, if_pos c]; exact ⟨rfl, rfl⟩
  · cases b with
    | true =>
      refine ⟨((zj l x).f0, (zj l x).f1, (zj l x).f2, (zj l x).f3), fun k hk => ?_⟩
      unfold spec_l04Seen.f impl_Fixed_seen.f
      rw [if_neg c, if_neg c, if_pos rfl, if_pos rfl, if_pos (show 0 ≤ x by omega), if_pos hx]
      exact ⟨rfl, rfl⟩
    | false =>
      refine ⟨(IntKind.i8.wrap (-(zj l x).f0), IntKind.i8.wrap (-(zj l x).f1), IntKind.i8.wrap (-(zj l x).f2), IntKind.i8.wrap (-(zj l x).f3)), fun k hk => ?_⟩
      unfold spec_l04Seen.f impl_Fixed_seen.f
      rw [if_neg c, if_neg c, if_neg (show ¬ (false = true) by decide), if_neg (show ¬ (false = true) by decide), if_pos (show 0 ≤ x by omega), if_pos hx, if_pos (show 0 ≤ x by omega), if_pos hx, (opp_f _ _ _ _ k (by omega)).1, (opp_f _ _ _ _ k (by omega)).2]
      exact ⟨rfl, rfl⟩
theorem dec_l0 (a kd : Int) (l : List S43) (w0 w1 w2 w3 : Int) (L : List S38) (hL : L.length ≤ 27) (hg : ∀ x ∈ L, zsc l.length x) : ∀ (d j : Nat), j + d = L.length → ∃ (i : Int) (v : Int × Bool × Bool), (∀ k, d + 20 < k → impl_Case_101.l0 k L L.length j a kd l w0 w1 w2 w3 = some i ∧ spec_l04Decode.l0 k L j a kd l w0 w1 w2 w3 = some v) ∧
    ((i < 0 ∧ v = (0, false, false)) ∨ (0 ≤ i ∧ i < L.length ∧ v = ((zha L i).f0, (zha L i).f1, true))) := by
  intro d
  induction d with
  | zero =>
    intro j hj
    refine ⟨-1, (0, false, false), fun k hk => ?_, Or.inl ⟨by decide, rfl⟩⟩
    obtain ⟨k, rfl⟩ : ∃ m, k = m + 1 := ⟨k - 1, by omega⟩
    rw [impl_Case_101.l0.eq_2, spec_l04Decode.l0.eq_2, if_neg (by omega), if_neg (by omega)]
    exact ⟨rfl, rfl⟩
  | succ d ih =>
    intro j hj
    obtain ⟨i, v, hv, r⟩ := ih (j + 1) (by omega)
    have wj : wrap64 ((j : Int) + 1) = ((j + 1 : Nat) : Int) := zpb (j := j) (n := L.length) (by omega) (by omega)
    have gx := hg _ (getD38_mem L j (by omega))
    rw [← rd38_at] at gx
    obtain ⟨⟨t0, t1, t2, t3⟩, ht⟩ := seen_f a kd l (zha L (j : Int)).f0 (zha L (j : Int)).f1 gx.2
    by_cases c : (t0 == w0 && (t1 == w1 && (t2 == w2 && (t3 == w3)))) = true
    · refine ⟨(j : Int), ((zha L (j : Int)).f0, (zha L (j : Int)).f1, true), fun k hk => ?_, Or.inr ⟨by omega, by omega, rfl⟩⟩
      obtain ⟨k, rfl⟩ : ∃ m, k = m + 1 := ⟨k - 1, by omega⟩
      rw [impl_Case_101.l0.eq_2, spec_l04Decode.l0.eq_2]
      unfold impl_Fixed_decode_1.f
      rw [if_pos (by omega), if_pos (by omega), if_pos (by omega), if_pos (by omega), (ht k (by omega)).1, (ht k (by omega)).2]
      simp only [Option.bind_some]
      rw [if_pos c, if_pos c]
      exact ⟨rfl, rfl⟩
    · refine ⟨i, v, fun k hk => ?_, r⟩
      obtain ⟨k, rfl⟩ : ∃ m, k = m + 1 := ⟨k - 1, by omega⟩
      rw [impl_Case_101.l0.eq_2, spec_l04Decode.l0.eq_2]
      unfold impl_Fixed_decode_1.f
      rw [if_pos (by omega), if_pos (by omega), if_pos (by omega), if_pos (by omega), (ht k (by omega)).1, (ht k (by omega)).2]
      simp only [Option.bind_some]
      rw [if_neg c, if_neg c, wj]
      exact hv k (by omega)
theorem decode_f (a kd : Int) (l : List S43) (hn : 1 ≤ l.length ∧ l.length ≤ 13) (w0 w1 w2 w3 : Int) : ∃ v : Int × Bool × Bool, ∀ k, 100 < k → spec_l04Decode.f k a kd l w0 w1 w2 w3 = some v ∧ impl_Fixed_decode.f k a kd l w0 w1 w2 w3 = some v := by
  obtain ⟨L, e, hL, hg⟩ := cases_f a kd l hn
  obtain ⟨i, v, hv, r⟩ := dec_l0 a kd l w0 w1 w2 w3 L hL hg L.length 0 (by omega)
  refine ⟨v, fun k hk => ?_⟩
  have h1 : impl_Case_101.l0 k L L.length 0 a kd l w0 w1 w2 w3 = some i := (hv k (by omega)).1
  have h2 : spec_l04Decode.l0 k L 0 a kd l w0 w1 w2 w3 = some v := (hv k (by omega)).2
  unfold spec_l04Decode.f impl_Fixed_decode.f impl_Case_101.f
  rw [(e k (by omega)).1, (e k (by omega)).2]
  simp only [Option.bind_some]
  rw [h1, h2]
  simp only [Option.bind_some]
  rcases r with ⟨hi, rv⟩ | ⟨hi, hl, rv⟩
  · rw [if_pos hi, rv]; exact ⟨by first | rfl | trivial, by first | rfl | trivial⟩
  · rw [if_neg (by omega), if_pos hi, if_pos hl, rv]; exact ⟨by first | rfl | trivial, by first | rfl | trivial⟩
theorem tm3 (x : Int) : IntKind.i8.wrap (IntKind.i8.wrap (Int.tmod x 3) - 1) = IntKind.i8.wrap (wrap64 (Int.tmod x 3 - 1)) := by
  have h : -3 < Int.tmod x 3 ∧ Int.tmod x 3 < 3 := by
    have := Int.tmod_lt_of_pos x (show (0 : Int) < 3 by decide)
    have h2 := Int.lt_tmod_of_pos x (show (0 : Int) < 3 by decide)
    omega
  rw [zmd (x := Int.tmod x 3) (by omega), show wrap64 (Int.tmod x 3 - 1) = Int.tmod x 3 - 1 by generalize Int.tmod x 3 = y at h ⊢; unfold wrap64; omega]
theorem wat_l0 : ∀ (k : Nat) (x i p q r s : Int), impl_wordAt.l0 k x i p q r s = spec_l04At.l0 k x i p q r s := by
  intro k
  induction k with
  | zero => intro x i p q r s; rfl
  | succ k ih =>
    intro x i p q r s
    rw [impl_wordAt.l0.eq_2, spec_l04At.l0.eq_2]
    simp only [tm3, ih]
theorem wat_some : ∀ (d : Nat), d ≤ 4 → ∀ (x p q r s : Int), ∃ t, ∀ k, d < k → impl_wordAt.l0 k x ((d : Int) - 1) p q r s = some t := by
  intro d
  induction d with
  | zero =>
    intro _ x p q r s
    refine ⟨(p, q, r, s), fun k hk => ?_⟩
    obtain ⟨k, rfl⟩ : ∃ m, k = m + 1 := ⟨k - 1, by omega⟩
    rw [impl_wordAt.l0.eq_2, if_neg (by decide)]
  | succ d ih =>
    intro h x p q r s
    have w : wrap64 (((d + 1 : Nat) : Int) - 1 - 1) = (d : Int) - 1 := by clear ih; unfold wrap64; omega
    have key : ∀ x p q r s : Int, ∃ t, ∀ k, d < k → impl_wordAt.l0 k x ((d : Int) - 1) p q r s = some t := ih (by omega)
    obtain ⟨t, ht⟩ := key (wrap64 (Int.tdiv x 3)) (zv (((d + 1 : Nat) : Int) - 1) 0 (IntKind.i8.wrap ((IntKind.i8.wrap (Int.tmod x 3)) - 1)) p) (zv (((d + 1 : Nat) : Int) - 1) 1 (IntKind.i8.wrap ((IntKind.i8.wrap (Int.tmod x 3)) - 1)) q) (zv (((d + 1 : Nat) : Int) - 1) 2 (IntKind.i8.wrap ((IntKind.i8.wrap (Int.tmod x 3)) - 1)) r) (zv (((d + 1 : Nat) : Int) - 1) 3 (IntKind.i8.wrap ((IntKind.i8.wrap (Int.tmod x 3)) - 1)) s)
    refine ⟨t, fun k hk => ?_⟩
    obtain ⟨k, rfl⟩ : ∃ m, k = m + 1 := ⟨k - 1, by omega⟩
    rw [impl_wordAt.l0.eq_2, if_pos (by omega), if_pos (by omega), if_pos (by omega), w]
    exact ht k (by omega)
theorem leaf_f (a kd : Int) (l : List S43) (ha : 1 ≤ a ∧ a ≤ 4) (hn : 1 ≤ l.length ∧ l.length ≤ 13) : ∃ (w : Int → Int × Int × Int × Int) (g : Int → Int × Bool × Bool), ∀ n k, 100 < k → spec_l04At.f k a n = some (w n) ∧ impl_wordAt.f k a n = some (w n) ∧
    spec_l04Decode.f k a kd l (w n).1 (w n).2.1 (w n).2.2.1 (w n).2.2.2 = some (g n) ∧ impl_Fixed_decode.f k a kd l (w n).1 (w n).2.1 (w n).2.2.1 (w n).2.2.2 = some (g n) := by
  have wa : wrap64 (a - 1) = a - 1 := by unfold wrap64; omega
  have h : ∀ n : Int, ∃ y : (Int × Int × Int × Int) × (Int × Bool × Bool), ∀ k, 100 < k → spec_l04At.f k a n = some y.1 ∧ impl_wordAt.f k a n = some y.1 ∧
      spec_l04Decode.f k a kd l y.1.1 y.1.2.1 y.1.2.2.1 y.1.2.2.2 = some y.2 ∧ impl_Fixed_decode.f k a kd l y.1.1 y.1.2.1 y.1.2.2.1 y.1.2.2.2 = some y.2 := by
    intro n
    obtain ⟨t, ht⟩ := wat_some a.toNat (by omega) n 0 0 0 0
    obtain ⟨v, hv⟩ := decode_f a kd l hn t.1 t.2.1 t.2.2.1 t.2.2.2
    refine ⟨(t, v), fun k hk => ?_⟩
    have e := ht k (by omega)
    rw [show ((a.toNat : Nat) : Int) - 1 = a - 1 by omega] at e
    unfold spec_l04At.f impl_wordAt.f
    rw [wa, ← wat_l0, e]
    exact ⟨rfl, rfl, (hv k hk).1, (hv k hk).2⟩
  obtain ⟨f, hf⟩ := Classical.axiomOfChoice h
  exact ⟨fun n => (f n).1, fun n => (f n).2, fun n k hk => hf n k hk⟩
end Go.Proofs.Ytmfbcklaomigaaa.M
