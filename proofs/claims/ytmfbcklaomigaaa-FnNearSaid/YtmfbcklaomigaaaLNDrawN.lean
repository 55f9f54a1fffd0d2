/- A drawn fixed plan is valid. -/
import Derived.Test.YtmfbcklaomigaaaLNDistN
import Derived.Test.YtmfbcklaomigaaaLNSeenN
import Derived.Test.YtmfbcklaomigaaaLTBaseN
import Derived.Test.YtmfbcklaomigaaaLTCasesN
import Derived.Test.YtmfbcklaomigaaaLTOkN
import Derived.Test.YtmfbcklaomigaaaNx2
import Derived.Test.YtmfbcklaomigaaaNx3
import Derived.Test.YtmfbcklaomigaaaNx4
import Derived.Test.YtmfbcklaomigaaaNx5
import Derived.Test.YtmfbcklaomigaaaNx6
import Derived.Test.YtmfbcklaomigaaaNx7
import Derived.Test.YtmfbcklaomigaaaNx8
namespace Go.Proofs.Ytmfbcklaomigaaa.N
open Go.RowKit Go.Proofs.YtmfbcklaomigaaaW.PrintWords Go.Proofs.YtmfbcklaomigaaaW.PrintLast Go.Proofs.YtmfbcklaomigaaaW.PrintMore
set_option linter.unusedVariables false
set_option linter.unusedSimpArgs false

theorem wr63 (n : Int) (h0 : 0 ≤ n) (h1 : n < 2 ^ 63) : IntKind.u64.wrap n = n := by rw [IntKind.wrap_u64]; omega
theorem and255 (y : Int) : 0 ≤ wrap64 (Go.bits .and .u64 (IntKind.u64.wrap y / 1099511627776) 255) := by
  have b := IntKind.wrap_u64 y
  have h1 : 0 ≤ IntKind.u64.wrap y / 1099511627776 := by omega
  have h2 : IntKind.u64.wrap y / 1099511627776 < 2 ^ 63 := by omega
  have h := bits_mask .u64 63 (by decide) wr63 8 (by decide) (IntKind.u64.wrap y / 1099511627776) h1 h2
  have e1 : ((2 : Int) ^ 8 - 1) = 255 := by decide
  have e2 : ((2 : Int) ^ 8) = 256 := by decide
  rw [e1, e2] at h
  rw [h]; unfold wrap64; omega
def zvd (s : List Int) : Prop := ∀ x ∈ s, 0 ≤ x ∧ x ≤ 255
theorem rd_mem (s : List Int) (i : Int) (h0 : 0 ≤ i) (h : i < s.length) : rd s i ∈ s := by
  unfold rd
  rw [List.getD_eq_getElem?_getD, List.getElem?_eq_getElem (by omega), Option.getD_some]; exact List.getElem_mem _
theorem next_f {s : List Int} (hs : zvd s) (i h : Int) (h0 : 0 ≤ i) (h1 : i ≤ 1000000) : ∃ v h', spec_l00Src_next.f s i h = some (v, i + 1, h') ∧ 0 ≤ v := by
  have w1 : wrap64 (i + 1) = i + 1 := by unfold wrap64; omega
  unfold spec_l00Src_next.f
  by_cases c : i < s.length
  · rw [if_pos c, if_pos h0, w1, if_pos (by omega)]
    refine ⟨_, _, rfl, ?_⟩
    have := hs _ (rd_mem s i h0 c)
    unfold wrap64; omega
  · rw [if_neg c, w1, if_neg (by omega)]
    exact ⟨_, _, rfl, and255 _⟩
theorem zud {s : List Int} (hs : zvd s) (i h n : Int) (h0 : 0 ≤ i) (h1 : i ≤ 1000000) (hn : n ≤ 200) : ∃ v i' h', spec_l00Src_pick.f s i h n = some (v, i', h') ∧ 0 ≤ v ∧ (1 ≤ n → v < n) ∧ 0 ≤ i' ∧ i' ≤ i + 1 := by
  unfold spec_l00Src_pick.f
  by_cases c : n ≤ 1
  · rw [if_pos c]; exact ⟨0, i, h, rfl, by omega, by omega, h0, by omega⟩
  · rw [if_neg c]
    obtain ⟨v, h', e, hv⟩ := next_f hs i h h0 h1
    rw [e]
    simp only [Option.bind_some]
    rw [if_neg (by omega), if_neg (by omega)]
    exact ⟨_, _, _, rfl, Int.tmod_nonneg _ hv, fun _ => Int.tmod_lt_of_pos _ (by omega), by omega, Int.le_refl _⟩
theorem zne {s : List Int} (hs : zvd s) (n : Int) (h1 : 1 ≤ n) (hn : n ≤ 200) : ∃ v, spec_P6Pick.f s n = some v ∧ 0 ≤ v ∧ v < n := by
  obtain ⟨v, i', h', e, g0, g1, _⟩ := zud hs 0 0 n (by decide) (by decide) hn
  unfold spec_P6Pick.f spec_l00From.f
  simp only [Option.bind_some]
  rw [e]
  exact ⟨v, rfl, g0, g1 h1⟩
theorem power_f (a : Int) (h : 0 ≤ a ∧ a ≤ 4) : ∃ P : Int, (∀ k, 6 < k → spec_l03Power.f k a = some P) ∧ 1 ≤ P ∧ P ≤ 81 := by
  have go : a = 0 ∨ a = 1 ∨ a = 2 ∨ a = 3 ∨ a = 4 := by omega
  have z : wrap64 (1 - 1) = 0 := by decide +kernel
  have z2 : wrap64 (2 - 1) = 1 := by decide +kernel
  have z3 : wrap64 (3 - 1) = 2 := by decide +kernel
  have z4 : wrap64 (4 - 1) = 3 := by decide +kernel
  rcases go with rfl | rfl | rfl | rfl | rfl
  · refine ⟨1, fun k hk => ?_, by decide, by decide⟩
    obtain ⟨k, rfl⟩ : ∃ m, k = m + 1 + 1 + 1 + 1 + 1 := ⟨k - 5, by omega⟩
    unfold spec_l03Power.f; rw [spec_l03Power.l0, if_neg (by decide)]
  · refine ⟨3, fun k hk => ?_, by decide, by decide⟩
    obtain ⟨k, rfl⟩ : ∃ m, k = m + 1 + 1 + 1 + 1 + 1 := ⟨k - 5, by omega⟩
    unfold spec_l03Power.f; rw [spec_l03Power.l0, if_pos (by decide), z, spec_l03Power.l0, if_neg (by decide)]; decide +kernel
  · refine ⟨9, fun k hk => ?_, by decide, by decide⟩
    obtain ⟨k, rfl⟩ : ∃ m, k = m + 1 + 1 + 1 + 1 + 1 := ⟨k - 5, by omega⟩
    unfold spec_l03Power.f; rw [spec_l03Power.l0, if_pos (by decide), z2, spec_l03Power.l0, if_pos (by decide), z, spec_l03Power.l0, if_neg (by decide)]; decide +kernel
  · refine ⟨27, fun k hk => ?_, by decide, by decide⟩
    obtain ⟨k, rfl⟩ : ∃ m, k = m + 1 + 1 + 1 + 1 + 1 := ⟨k - 5, by omega⟩
    unfold spec_l03Power.f; rw [spec_l03Power.l0, if_pos (by decide), z3, spec_l03Power.l0, if_pos (by decide), z2, spec_l03Power.l0, if_pos (by decide), z, spec_l03Power.l0, if_neg (by decide)]; decide +kernel
  · refine ⟨81, fun k hk => ?_, by decide, by decide⟩
    obtain ⟨k, rfl⟩ : ∃ m, k = m + 1 + 1 + 1 + 1 + 1 := ⟨k - 5, by omega⟩
    unfold spec_l03Power.f; rw [spec_l03Power.l0, if_pos (by decide), z4, spec_l03Power.l0, if_pos (by decide), z3, spec_l03Power.l0, if_pos (by decide), z2, spec_l03Power.l0, if_pos (by decide), z, spec_l03Power.l0, if_neg (by decide)]; decide +kernel
theorem at_l0 (a : Int) (ha : a ≤ 4) (d : Nat) : ∀ (x : Int) (t : T4), 0 ≤ x → x ≤ 1000000 → (d : Int) ≤ a → wB a t → ∃ u : T4, wB a u ∧ ∀ k, d < k → spec_l04At.l0 k x ((d : Int) - 1) t.1 t.2.1 t.2.2.1 t.2.2.2 = some u := by
  induction d with
  | zero =>
    intro x t h0 h1 hd ht
    refine ⟨t, ht, fun k hk => ?_⟩
    obtain ⟨k, rfl⟩ : ∃ m, k = m + 1 := ⟨k - 1, by omega⟩
    rw [spec_l04At.l0, if_neg (by omega)]
  | succ d ih =>
    intro x t h0 h1 hd ht
    have m0 := Int.tmod_nonneg (3 : Int) h0
    have m1 := Int.tmod_lt_of_pos x (show (0 : Int) < 3 by decide)
    have wv : wrap64 (Int.tmod x 3 - 1) = Int.tmod x 3 - 1 := by unfold wrap64; omega
    have v8 : IntKind.i8.wrap (Int.tmod x 3 - 1) = Int.tmod x 3 - 1 := zmb (by omega)
    have q0 : 0 ≤ Int.tdiv x 3 := Int.tdiv_nonneg h0 (by decide)
    have q1 : Int.tdiv x 3 ≤ x := by rw [Int.tdiv_eq_ediv_of_nonneg h0]; omega
    have wq : wrap64 (Int.tdiv x 3) = Int.tdiv x 3 := by unfold wrap64; omega
    have wd : wrap64 (((d + 1 : Nat) : Int) - 1 - 1) = (d : Int) - 1 := by unfold wrap64; omega
    have ht' := setW (i := ((d + 1 : Nat) : Int) - 1) (v := Int.tmod x 3 - 1) ht (by omega) (by omega) ⟨by omega, by omega⟩
    obtain ⟨u, hu, e⟩ := ih (Int.tdiv x 3) _ q0 (by omega) (by omega) ht'
    refine ⟨u, hu, fun k hk => ?_⟩
    obtain ⟨k, rfl⟩ : ∃ m, k = m + 1 := ⟨k - 1, by omega⟩
    rw [spec_l04At.l0, if_pos (by omega), if_pos (by omega), if_pos (by omega), wv, v8, wq, wd]
    exact e k (by omega)
theorem at_f (a n : Int) (ha : 1 ≤ a ∧ a ≤ 4) (hn : 0 ≤ n ∧ n ≤ 1000000) : ∃ u : T4, wB a u ∧ ∀ k, 6 < k → spec_l04At.f k a n = some u := by
  obtain ⟨d, rfl⟩ : ∃ d : Nat, a = d := ⟨a.toNat, by omega⟩
  obtain ⟨u, hu, e⟩ := at_l0 (d : Int) ha.2 d n (0, 0, 0, 0) hn.1 hn.2 (Int.le_refl _) (wB_zero _)
  refine ⟨u, hu, fun k hk => ?_⟩
  unfold spec_l04At.f
  rw [show wrap64 ((d : Int) - 1) = (d : Int) - 1 by unfold wrap64; omega]
  exact e k (by omega)
theorem nx_f (x : Int) (h : -1 ≤ x ∧ x ≤ 1) : ∃ y, spec_l04Next.f x = some y ∧ -1 ≤ y ∧ y ≤ 1 := by
  unfold spec_l04Next.f
  by_cases c : x = 1
  · rw [if_pos c]; exact ⟨-1, rfl, by decide, by decide⟩
  · rw [if_neg c]; exact ⟨_, rfl, by rw [zmb (by omega)]; omega, by rw [zmb (by omega)]; omega⟩
theorem rd4 {a : Int} {t : T4} (ht : wB a t) (i : Int) (h0 : 0 ≤ i) (h4 : i < 4) : -1 ≤ rd [t.1, t.2.1, t.2.2.1, t.2.2.2] i ∧ rd [t.1, t.2.1, t.2.2.1, t.2.2.2] i ≤ 1 := by
  obtain ⟨e0, e1, e2, e3⟩ := zfd.mp ht
  have f0 := zqb.mp e0; have f1 := zqb.mp e1; have f2 := zqb.mp e2; have f3 := zqb.mp e3
  have go : i = 0 ∨ i = 1 ∨ i = 2 ∨ i = 3 := by omega
  rcases go with rfl | rfl | rfl | rfl
  · exact ⟨f0.1, f0.2.1⟩
  · exact ⟨f1.1, f1.2.1⟩
  · exact ⟨f2.1, f2.2.1⟩
  · exact ⟨f3.1, f3.2.1⟩
theorem nextW_l0 (a : Int) (ha : a ≤ 4) (d : Nat) : ∀ (i : Nat) (t : T4), (i : Int) + d = a → wB a t → ∃ u : T4, wB a u ∧ ∀ k, d < k → spec_l04NextWord.l0 k a i t.1 t.2.1 t.2.2.1 t.2.2.2 = some u := by
  induction d with
  | zero =>
    intro i t hi ht
    refine ⟨t, ht, fun k hk => ?_⟩
    obtain ⟨k, rfl⟩ : ∃ m, k = m + 1 := ⟨k - 1, by omega⟩
    rw [spec_l04NextWord.l0, if_neg (by omega)]
  | succ d ih =>
    intro i t hi ht
    obtain ⟨y, ey, hy⟩ := nx_f _ (rd4 ht i (by omega) (by omega))
    have ht' := setW (i := (i : Int)) (v := y) ht (by omega) (by omega) hy
    obtain ⟨u, hu, e⟩ := ih (i + 1) _ (by omega) ht'
    refine ⟨u, hu, fun k hk => ?_⟩
    obtain ⟨k, rfl⟩ : ∃ m, k = m + 1 := ⟨k - 1, by omega⟩
    rw [spec_l04NextWord.l0, if_pos (by omega), if_pos (by omega), if_pos (by omega), ey, zpc (j := i) (n := 10) (by omega) (by omega)]
    simp only [Option.bind_some]
    exact e k (by omega)
theorem nextW_f (a : Int) (ha : 1 ≤ a ∧ a ≤ 4) (t : T4) (ht : wB a t) : ∃ u : T4, wB a u ∧ ∀ k, 6 < k → spec_l04NextWord.f k a t.1 t.2.1 t.2.2.1 t.2.2.2 = some u := by
  obtain ⟨d, rfl⟩ : ∃ d : Nat, a = d := ⟨a.toNat, by omega⟩
  obtain ⟨u, hu, e⟩ := nextW_l0 (d : Int) ha.2 d 0 t (by omega) ht
  exact ⟨u, hu, fun k hk => by unfold spec_l04NextWord.f; exact e k (by omega)⟩
theorem turns_l0 (a : Int) (ha : a ≤ 4) (t : T4) (ht : wB a t) (d : Nat) : ∀ (i : Nat), (i : Int) + d = a → 1 ≤ i → ∃ b, ∀ k, d < k → spec_l04Turns.l0 k a i t.1 t.2.1 t.2.2.1 t.2.2.2 = some b := by
  induction d with
  | zero =>
    intro i hi h1
    refine ⟨false, fun k hk => ?_⟩
    obtain ⟨k, rfl⟩ : ∃ m, k = m + 1 := ⟨k - 1, by omega⟩
    rw [spec_l04Turns.l0, if_neg (by omega)]
  | succ d ih =>
    intro i hi h1
    have wi : wrap64 ((i : Int) - 1) = (i : Int) - 1 := by unfold wrap64; omega
    by_cases c : rd [t.1, t.2.1, t.2.2.1, t.2.2.2] i = rd [t.1, t.2.1, t.2.2.1, t.2.2.2] ((i : Int) - 1)
    · obtain ⟨b, e⟩ := ih (i + 1) (by omega) (by omega)
      refine ⟨b, fun k hk => ?_⟩
      obtain ⟨k, rfl⟩ : ∃ m, k = m + 1 := ⟨k - 1, by omega⟩
      rw [spec_l04Turns.l0, wi, if_pos (by omega), if_pos (by omega), if_pos (by omega), if_pos (by omega), if_pos (by omega), if_pos c, zpc (j := i) (n := 10) (by omega) (by omega)]
      exact e k (by omega)
    · obtain ⟨y, ey, hy⟩ := nx_f _ (rd4 ht ((i : Int) - 1) (by omega) (by omega))
      refine ⟨rd [t.1, t.2.1, t.2.2.1, t.2.2.2] i == y, fun k hk => ?_⟩
      · obtain ⟨k, rfl⟩ : ∃ m, k = m + 1 := ⟨k - 1, by omega⟩
        rw [spec_l04Turns.l0, wi, if_pos (by omega), if_pos (by omega), if_pos (by omega), if_pos (by omega), if_pos (by omega), if_neg c, ey]
        rfl
theorem turns_f (a : Int) (ha : 1 ≤ a ∧ a ≤ 4) (t : T4) (ht : wB a t) : ∃ b, ∀ k, 6 < k → spec_l04Turns.f k a t.1 t.2.1 t.2.2.1 t.2.2.2 = some b := by
  obtain ⟨d, hd⟩ : ∃ d : Nat, a = d + 1 := ⟨(a - 1).toNat, by omega⟩
  obtain ⟨b, e⟩ := turns_l0 a ha.2 t ht d 1 (by omega) (by omega)
  exact ⟨b, fun k hk => by unfold spec_l04Turns.f; exact e k (by omega)⟩
def AllW (a : Int) (l : List S43) : Prop := ∀ x ∈ l, zad a x.f0 x.f1 x.f2 x.f3 = true
theorem zkd {a : Int} {l : List S43} {t : T4} (h : AllW a l) (ht : wB a t) : AllW a (l ++ [(⟨t.1, t.2.1, t.2.2.1, t.2.2.2⟩ : S43)]) := fun x hx => by
  rcases List.mem_append.mp hx with h1 | h1
  · exact h x h1
  · simp at h1; subst h1; exact ht
def Made (a kd c : Int) (r : Int × Int × List S43 × Int) : Prop := r.2.2.2 = 0 → r.1 = a ∧ r.2.1 = kd ∧ c ≤ r.2.2.1.length ∧ r.2.2.1.length < c + 3 ∧ AllW a r.2.2.1
theorem make_l0 (a kd c : Int) (ha : 1 ≤ a ∧ a ≤ 4) (hc : 1 ≤ c ∧ c ≤ 80) (P : Int) (hP : ∀ k, 6 < k → spec_l03Power.f k (wrap64 (a - 1)) = some P) (hP2 : P ≤ 81) (d : Nat) : ∀ (n : Int) (l : List S43), n + d = P → 0 ≤ n → (l.length : Int) < c + 3 → AllW a l →
    ∃ r, (∀ k, 10 * d + 20 < k → spec_MakeFixed.l0 k a kd c n a kd l = some r) ∧ Made a kd c r := by
  induction d with
  | zero =>
    intro n l hn h0 hl hw
    by_cases q : (l.length : Int) < c
    · refine ⟨(0, 0, [], 6), fun k hk => ?_, fun h => absurd h (by decide)⟩
      obtain ⟨k, rfl⟩ : ∃ m, k = m + 1 + 1 := ⟨k - 2, by omega⟩
      rw [spec_MakeFixed.l0, hP _ (by omega)]
      simp only [Option.bind_some]
      rw [if_neg (by omega), spec_MakeFixed.j2, if_neg (by decide), if_pos q]
    · refine ⟨(a, kd, l, 0), fun k hk => ?_, fun _ => ⟨rfl, rfl, by show c ≤ (l.length : Int); omega, hl, hw⟩⟩
      obtain ⟨k, rfl⟩ : ∃ m, k = m + 1 + 1 := ⟨k - 2, by omega⟩
      rw [spec_MakeFixed.l0, hP _ (by omega)]
      simp only [Option.bind_some]
      rw [if_neg (by omega), spec_MakeFixed.j2, if_neg (by decide), if_neg q]
  | succ d ih =>
    intro n l hn h0 hl hw
    have wn : wrap64 (n + 1) = n + 1 := by unfold wrap64; omega
    by_cases q : (l.length : Int) < c
    · obtain ⟨t, ht, et⟩ := at_f a n ha ⟨h0, by omega⟩
      obtain ⟨b, eb⟩ := turns_f a ha t ht
      obtain ⟨t1, ht1, et1⟩ := nextW_f a ha t ht
      obtain ⟨t2, ht2, et2⟩ := nextW_f a ha t1 ht1
      obtain ⟨t3, ht3, et3⟩ := nextW_f a ha t2 ht2
      obtain ⟨r0, e0, m0⟩ := ih (n + 1) l (by omega) (by omega) hl hw
      obtain ⟨r1, e1, m1⟩ := ih (n + 1) (l ++ [(⟨t.1, t.2.1, t.2.2.1, t.2.2.2⟩ : S43)] ++ [(⟨t1.1, t1.2.1, t1.2.2.1, t1.2.2.2⟩ : S43)] ++ [(⟨t2.1, t2.2.1, t2.2.2.1, t2.2.2.2⟩ : S43)]) (by omega) (by omega) (by simp; omega) (zkd (zkd (zkd hw ht) ht1) ht2)
      have go : ∀ f : Bool, ∃ r, (∀ k, 10 * d + 28 < k → spec_MakeFixed.j3 k a kd c n f a kd l t.1 t.2.1 t.2.2.1 t.2.2.2 = some r) ∧ Made a kd c r := fun f => by
        cases f with
        | true =>
          refine ⟨r0, fun k hk => ?_, m0⟩
          obtain ⟨k, rfl⟩ : ∃ m, k = m + 1 := ⟨k - 1, by omega⟩
          rw [spec_MakeFixed.j3, if_pos rfl, wn]; exact e0 k (by omega)
        | false =>
          refine ⟨r1, fun k hk => ?_, m1⟩
          obtain ⟨k, rfl⟩ : ∃ m, k = m + 1 + 1 + 1 + 1 + 1 := ⟨k - 5, by omega⟩
          rw [spec_MakeFixed.j3, if_neg (by decide), spec_MakeFixed.l1, if_pos (by decide), if_pos (by omega), et1 _ (by omega)]
          simp only [Option.bind_some]
          rw [wn_0, spec_MakeFixed.l1, if_pos (by decide), if_pos (by simp; omega), et2 _ (by omega)]
          simp only [Option.bind_some]
          rw [wn_1, spec_MakeFixed.l1, if_pos (by decide), if_pos (by simp; omega), et3 _ (by omega)]
          simp only [Option.bind_some]
          rw [wn_2, spec_MakeFixed.l1, if_neg (by decide), wn]
          exact e1 k (by omega)
      have step : ∀ k, spec_MakeFixed.l0 (k + 10 + 1 + 1) a kd c n a kd l = if kd = 2 then (if b = true then spec_MakeFixed.j3 (k + 10) a kd c n (n == 0) a kd l t.1 t.2.1 t.2.2.1 t.2.2.2 else spec_MakeFixed.j3 (k + 10) a kd c n true a kd l t.1 t.2.1 t.2.2.1 t.2.2.2) else spec_MakeFixed.j3 (k + 10) a kd c n (n == 0) a kd l t.1 t.2.1 t.2.2.1 t.2.2.2 := fun k => by
        rw [spec_MakeFixed.l0, hP _ (by omega)]
        simp only [Option.bind_some]
        rw [if_pos (by omega), decide_eq_true q, spec_MakeFixed.j2, if_pos rfl, et _ (by omega)]
        simp only [Option.bind_some]
        rw [eb _ (by omega)]
        rfl
      obtain ⟨f, hf⟩ : ∃ f : Bool, ∀ k, spec_MakeFixed.l0 (k + 10 + 1 + 1) a kd c n a kd l = spec_MakeFixed.j3 (k + 10) a kd c n f a kd l t.1 t.2.1 t.2.2.1 t.2.2.2 := by
        by_cases k2 : kd = 2
        · cases hb : b with
          | true => exact ⟨n == 0, fun k => by rw [step, if_pos k2, if_pos hb]⟩
          | false => exact ⟨true, fun k => by rw [step, if_pos k2, if_neg (by rw [hb]; decide)]⟩
        · exact ⟨n == 0, fun k => by rw [step, if_neg k2]⟩
      obtain ⟨r, er, mr⟩ := go f
      refine ⟨r, fun k hk => ?_, mr⟩
      obtain ⟨k, rfl⟩ : ∃ m, k = m + 10 + 1 + 1 := ⟨k - 12, by omega⟩
      rw [hf]; exact er _ (by omega)
    · refine ⟨(a, kd, l, 0), fun k hk => ?_, fun _ => ⟨rfl, rfl, by show c ≤ (l.length : Int); omega, hl, hw⟩⟩
      obtain ⟨k, rfl⟩ : ∃ m, k = m + 1 + 1 := ⟨k - 2, by omega⟩
      rw [spec_MakeFixed.l0, hP _ (by omega)]
      simp only [Option.bind_some]
      rw [if_pos (by omega), decide_eq_false q, spec_MakeFixed.j2, if_neg (by decide), if_neg q]
theorem make_f (a kd c : Int) (ha : 1 ≤ a ∧ a ≤ 4) (hk : 0 ≤ kd ∧ kd ≤ 2) (hc : 1 ≤ c ∧ c ≤ 80) (h3 : Int.tmod c 3 = 0) : ∃ r, (∀ k, 1000 < k → spec_MakeFixed.f k a kd c = some r) ∧ Made a kd c r := by
  obtain ⟨P, hP, p1, p2⟩ := power_f (a - 1) ⟨by omega, by omega⟩
  have wa : wrap64 (a - 1) = a - 1 := by unfold wrap64; omega
  obtain ⟨r, er, mr⟩ := make_l0 a kd c ha hc P (by rw [wa]; exact hP) p2 P.toNat 0 [] (by omega) (by decide) (by simp; omega) (fun x hx => by simp at hx)
  refine ⟨r, fun k hk' => ?_, mr⟩
  obtain ⟨k, rfl⟩ : ∃ m, k = m + 1 := ⟨k - 1, by omega⟩
  have ea : okL a = true := decide_eq_true ha
  have ek : okK kd = true := decide_eq_true hk
  unfold spec_MakeFixed.f
  rw [(zec a).1, (kind_f kd).1, ea, ek]
  simp only [Option.bind_some, if_true]
  unfold spec_l00In.f
  rw [if_pos (show c ≥ 1 from hc.1), decide_eq_true hc.2]
  simp only [Option.bind_some, Bool.not_true]
  rw [spec_MakeFixed.j0, if_neg (by decide), if_pos h3, zmb (by omega), zmb (by omega)]
  exact er k (by omega)
theorem any_f {s : List Int} (hs : zvd s) (a i h : Int) (ha : 1 ≤ a ∧ a ≤ 4) (h0 : 0 ≤ i) (h1 : i ≤ 1000000) : ∃ (u : T4) (i' h' : Int), wB a u ∧ 0 ≤ i' ∧ i' ≤ i + 1 ∧ ∀ k, 10 < k → spec_l04Any.f k s i h a = some (u.1, u.2.1, u.2.2.1, u.2.2.2, i', h') := by
  obtain ⟨P, hP, p1, p2⟩ := power_f a ⟨by omega, by omega⟩
  obtain ⟨v, i', h', e, g0, g1, g2, g3⟩ := zud hs i h P h0 h1 (by omega)
  obtain ⟨u, hu, eu⟩ := at_f a v ha ⟨g0, by have := g1 p1; omega⟩
  refine ⟨u, i', h', hu, g2, g3, fun k hk => ?_⟩
  unfold spec_l04Any.f
  rw [hP k (by omega)]
  simp only [Option.bind_some]
  rw [e]
  simp only [Option.bind_some]
  rw [eu k (by omega)]
  rfl
theorem drawn_l0 {s : List Int} (hs : zvd s) (a kd : Int) (ha : 1 ≤ a ∧ a ≤ 4) (d : Nat) : ∀ (i h : Int) (l : List S43), d ≤ 100 → 0 ≤ i → i + d ≤ 1000 → l.length + d ≤ 100 → AllW a l → ∃ (l' : List S43) (i' h' : Int), AllW a l' ∧ l'.length = l.length + d ∧ ∀ k, d + 20 < k → spec_l04Drawn.l0 k a d s i h a kd l = some (a, kd, l', i', h') := by
  induction d with
  | zero =>
    intro i h l hd h0 h1 hl hw
    refine ⟨l, i, h, hw, rfl, fun k hk => ?_⟩
    obtain ⟨k, rfl⟩ : ∃ m, k = m + 1 := ⟨k - 1, by omega⟩
    rw [spec_l04Drawn.l0, if_neg (by decide)]
  | succ d ih =>
    intro i h l hd h0 h1 hl hw
    obtain ⟨u, i', h', hu, g0, g1, e⟩ := any_f hs a i h ha h0 (by omega)
    obtain ⟨l', i2, h2, hw', hl', e'⟩ := ih i' h' (l ++ [(⟨u.1, u.2.1, u.2.2.1, u.2.2.2⟩ : S43)]) (by omega) g0 (by omega) (by simp; omega) (zkd hw hu)
    refine ⟨l', i2, h2, hw', by rw [hl']; simp; omega, fun k hk => ?_⟩
    obtain ⟨k, rfl⟩ : ∃ m, k = m + 1 := ⟨k - 1, by omega⟩
    rw [spec_l04Drawn.l0, if_pos (by omega), e k (by omega)]
    simp only [Option.bind_some]
    rw [if_pos (by omega), show wrap64 (((d + 1 : Nat) : Int) - 1) = (d : Int) by unfold wrap64; omega]
    exact e' k (by omega)
theorem fixed_drawn {s : List Int} (hs : zvd s) : ∃ (a kd : Int) (l : List S43), okF a kd l = true ∧ ∀ k, 1100 < k → spec_P6Fixed.f k s = some (a, kd, l) := by
  obtain ⟨p, i1, h1, e1, a0, a1, b0, b1⟩ := zud hs 0 0 4 (by decide) (by decide) (by decide)
  obtain ⟨kd, i2, h2, e2, c0, c1, d0, d1⟩ := zud hs i1 h1 3 b0 (by omega) (by decide)
  obtain ⟨n, i3, h3, e3, f0, f1, g0, g1⟩ := zud hs i2 h2 4 d0 (by omega) (by decide)
  have hp := a1 (by decide); have hkd := c1 (by decide); have hn := f1 (by decide)
  have wp : wrap64 (1 + p) = 1 + p := by unfold wrap64; omega
  have wn : wrap64 (3 * wrap64 (1 + n)) = 3 * (1 + n) := by unfold wrap64; omega
  have t3 : Int.tmod (3 * (1 + n)) 3 = 0 := Int.mul_tmod_right 3 (1 + n)
  obtain ⟨r, er, mr⟩ := make_f (1 + p) kd (3 * (1 + n)) ⟨by omega, by omega⟩ ⟨c0, by omega⟩ ⟨by omega, by omega⟩ t3
  have ea : okL (1 + p) = true := decide_eq_true ⟨by omega, by omega⟩
  have ek : okK kd = true := decide_eq_true ⟨c0, by omega⟩
  have good : ∀ l : List S43, AllW (1 + p) l → 1 ≤ l.length → l.length ≤ 80 → okF (1 + p) kd l = true := fun l h1 h2 h3 => by
    unfold okF allW
    rw [ea, ek, decide_eq_true (show 1 ≤ l.length ∧ l.length ≤ 80 from ⟨h2, h3⟩), List.all_eq_true.mpr h1]; rfl
  have more : ∀ (i h : Int) (x y : Int) (z : List S43), 0 ≤ i → i ≤ 100 → ∃ (a kd' : Int) (l : List S43) (i' h' : Int), okF a kd' l = true ∧ ∀ k, 100 < k → spec_l04Drawn.j0 k (1 + p) kd true s i h x y z = some (a, kd', l, i', h') := fun i h x y z q0 q1 => by
    obtain ⟨v, i4, h4, e4, v0, v1, w0, w1⟩ := zud hs i h 7 q0 (by omega) (by decide)
    have hv := v1 (by decide)
    obtain ⟨d, hd⟩ : ∃ d : Nat, 1 + v = d := ⟨(1 + v).toNat, by omega⟩
    have wv : wrap64 (1 + v) = d := by unfold wrap64; omega
    obtain ⟨l', i', h', m0, m1, m2⟩ := drawn_l0 hs (1 + p) kd ⟨by omega, by omega⟩ d i4 h4 [] (by omega) w0 (by omega) (by simp; omega) (fun x hx => by simp at hx)
    refine ⟨1 + p, kd, l', i', h', good l' m0 (by rw [m1]; simp; omega) (by rw [m1]; simp; omega), fun k hk => ?_⟩
    obtain ⟨k, rfl⟩ : ∃ m, k = m + 1 := ⟨k - 1, by omega⟩
    rw [spec_l04Drawn.j0, if_pos rfl, e4]
    simp only [Option.bind_some]
    rw [wv, zmb (by omega), zmb (by omega)]
    exact m2 k (by omega)
  obtain ⟨a, kd', l, i', h', ok, ed⟩ : ∃ (a kd' : Int) (l : List S43) (i' h' : Int), okF a kd' l = true ∧ ∀ k, 1100 < k → spec_l04Drawn.f k s 0 0 = some (a, kd', l, i', h') := by
    have base : ∀ k, 1100 < k → spec_l04Drawn.f k s 0 0 = if r.2.2.2 = 0 then ((spec_l00Src_one.f s i3 h3 4).bind fun bt187 => (spec_l04Drawn.j0 k (1 + p) kd bt187.1 s bt187.2.1 bt187.2.2 r.1 r.2.1 r.2.2.1)) else (spec_l04Drawn.j0 k (1 + p) kd true s i3 h3 r.1 r.2.1 r.2.2.1) := fun k hk => by
      unfold spec_l04Drawn.f
      rw [e1]; simp only [Option.bind_some]
      rw [e2]; simp only [Option.bind_some]
      rw [e3]; simp only [Option.bind_some]
      rw [wp, wn, er k (by omega)]; rfl
    by_cases c : r.2.2.2 = 0
    · obtain ⟨v, i4, h4, e4, v0, v1, w0, w1⟩ := zud hs i3 h3 4 g0 (by omega) (by decide)
      obtain ⟨m0, m1, m2, m3, m4⟩ := mr c
      have one : spec_l00Src_one.f s i3 h3 4 = some (v == 0, i4, h4) := by unfold spec_l00Src_one.f; rw [e4]; rfl
      cases hb : (v == 0) with
      | true =>
        obtain ⟨a, kd', l, i', h', ok, ed⟩ := more i4 h4 r.1 r.2.1 r.2.2.1 w0 (by omega)
        refine ⟨a, kd', l, i', h', ok, fun k hk => ?_⟩
        rw [base k hk, if_pos c, one, hb]
        exact ed k (by omega)
      | false =>
        refine ⟨r.1, r.2.1, r.2.2.1, i4, h4, by rw [m0, m1]; exact good _ m4 (by omega) (by omega), fun k hk => ?_⟩
        rw [base k hk, if_pos c, one, hb]
        obtain ⟨k, rfl⟩ : ∃ m, k = m + 1 := ⟨k - 1, by omega⟩
        simp only [Option.bind_some]
        rw [spec_l04Drawn.j0, if_neg (by decide)]
    · obtain ⟨a, kd', l, i', h', ok, ed⟩ := more i3 h3 r.1 r.2.1 r.2.2.1 g0 (by omega)
      refine ⟨a, kd', l, i', h', ok, fun k hk => ?_⟩
      rw [base k hk, if_neg c]
      exact ed k (by omega)
  refine ⟨a, kd', l, ok, fun k hk => ?_⟩
  unfold spec_P6Fixed.f spec_l00From.f
  simp only [Option.bind_some]
  rw [ed k hk]; rfl

end Go.Proofs.Ytmfbcklaomigaaa.N
