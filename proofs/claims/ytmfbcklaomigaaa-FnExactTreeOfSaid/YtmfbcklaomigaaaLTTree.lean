/- Fixed plans: the tree, on both sides. -/
import Derived.Test.YtmfbcklaomigaaaLTBase
import Derived.Test.YtmfbcklaomigaaaLTDecode
import Derived.Test.YtmfbcklaomigaaaLTOk
import Derived.Test.YtmfbcklaomigaaaLTPans
import Derived.Test.YtmfbcklaomigaaaMx11
import Derived.Test.YtmfbcklaomigaaaMx13
import Derived.Test.YtmfbcklaomigaaaMx22
import Derived.Test.YtmfbcklaomigaaaMx1
namespace Go.Proofs.Ytmfbcklaomigaaa.M
open Go.RowKit Go.Proofs.YtmfbcklaomigaaaW.PrintWords Go.Proofs.YtmfbcklaomigaaaW.PrintLast Go.Proofs.YtmfbcklaomigaaaW.PrintMore
set_option linter.unusedVariables false
set_option linter.unusedSimpArgs false
def pw : Nat → Nat
  | 0 => 1
  | n + 1 => 3 * pw n
theorem pw_le (i : Nat) (h : i ≤ 4) : 1 ≤ pw i ∧ pw i ≤ 81 := by
  have : i = 0 ∨ i = 1 ∨ i = 2 ∨ i = 3 ∨ i = 4 := by omega
  rcases this with rfl | rfl | rfl | rfl | rfl <;> decide
theorem q3_0 : wrap64 (1 * 3) = 3 := by decide +kernel
theorem q3_1 : wrap64 (3 * 3) = 9 := by decide +kernel
theorem q3_2 : wrap64 (9 * 3) = 27 := by decide +kernel
theorem q3_3 : wrap64 (27 * 3) = 81 := by decide +kernel
theorem ipower_f (i : Nat) (h : i ≤ 4) (k : Nat) (hk : 5 < k) : impl_power.f k i = some (pw i : Int) := by
  obtain ⟨k, rfl⟩ : ∃ m, k = m + 1 + 1 + 1 + 1 + 1 := ⟨k - 5, by omega⟩
  have : i = 0 ∨ i = 1 ∨ i = 2 ∨ i = 3 ∨ i = 4 := by omega
  unfold impl_power.f
  rcases this with rfl | rfl | rfl | rfl | rfl
  · rw [impl_power.l0.eq_2, if_neg (by decide)]; rfl
  · rw [impl_power.l0.eq_2, if_pos (by decide), q3_0, wn_0, impl_power.l0.eq_2, if_neg (by decide)]; rfl
  · rw [impl_power.l0.eq_2, if_pos (by decide), q3_0, wn_0, impl_power.l0.eq_2, if_pos (by decide), q3_1, wn_1, impl_power.l0.eq_2, if_neg (by decide)]; rfl
  · rw [impl_power.l0.eq_2, if_pos (by decide), q3_0, wn_0, impl_power.l0.eq_2, if_pos (by decide), q3_1, wn_1, impl_power.l0.eq_2, if_pos (by decide), q3_2, wn_2, impl_power.l0.eq_2, if_neg (by decide)]; rfl
  · rw [impl_power.l0.eq_2, if_pos (by decide), q3_0, wn_0, impl_power.l0.eq_2, if_pos (by decide), q3_1, wn_1, impl_power.l0.eq_2, if_pos (by decide), q3_2, wn_2, impl_power.l0.eq_2, if_pos (by decide), q3_3, wn_3, impl_power.l0.eq_2, if_neg (by decide)]; rfl
theorem m1_1 : wrap64 (1 - 1) = 0 := by decide +kernel
theorem m1_2 : wrap64 (2 - 1) = 1 := by decide +kernel
theorem m1_3 : wrap64 (3 - 1) = 2 := by decide +kernel
theorem m1_4 : wrap64 (4 - 1) = 3 := by decide +kernel
theorem spower_l0 (k : Nat) : spec_l03Power.l0 (k + 1 + 1 + 1 + 1 + 1) 4 1 = some 81 ∧ spec_l03Power.l0 (k + 1 + 1 + 1 + 1 + 1) 3 1 = some 27 ∧ spec_l03Power.l0 (k + 1 + 1 + 1 + 1 + 1) 2 1 = some 9 ∧ spec_l03Power.l0 (k + 1 + 1 + 1 + 1 + 1) 1 1 = some 3 ∧ spec_l03Power.l0 (k + 1 + 1 + 1 + 1 + 1) 0 1 = some 1 := by
  refine ⟨?_, ?_, ?_, ?_, ?_⟩
  · rw [spec_l03Power.l0.eq_2, if_pos (by decide), m1_4, q3_0, spec_l03Power.l0.eq_2, if_pos (by decide), m1_3, q3_1, spec_l03Power.l0.eq_2, if_pos (by decide), m1_2, q3_2, spec_l03Power.l0.eq_2, if_pos (by decide), m1_1, q3_3, spec_l03Power.l0.eq_2, if_neg (by decide)]
  · rw [spec_l03Power.l0.eq_2, if_pos (by decide), m1_3, q3_0, spec_l03Power.l0.eq_2, if_pos (by decide), m1_2, q3_1, spec_l03Power.l0.eq_2, if_pos (by decide), m1_1, q3_2, spec_l03Power.l0.eq_2, if_neg (by decide)]
  · rw [spec_l03Power.l0.eq_2, if_pos (by decide), m1_2, q3_0, spec_l03Power.l0.eq_2, if_pos (by decide), m1_1, q3_1, spec_l03Power.l0.eq_2, if_neg (by decide)]
  · rw [spec_l03Power.l0.eq_2, if_pos (by decide), m1_1, q3_0, spec_l03Power.l0.eq_2, if_neg (by decide)]
  · rw [spec_l03Power.l0.eq_2, if_neg (by decide)]
theorem zic (i : Nat) (h : i ≤ 4) (k : Nat) (hk : 5 < k) : spec_l03Power.f k i = some (pw i : Int) ∧ impl_power.f k i = some (pw i : Int) := by
  refine ⟨?_, ipower_f i h k hk⟩
  obtain ⟨k, rfl⟩ : ∃ m, k = m + 1 + 1 + 1 + 1 + 1 := ⟨k - 5, by omega⟩
  have s := spower_l0 k
  have : i = 0 ∨ i = 1 ∨ i = 2 ∨ i = 3 ∨ i = 4 := by omega
  unfold spec_l03Power.f
  rcases this with rfl | rfl | rfl | rfl | rfl
  · exact s.2.2.2.2
  · exact s.2.2.2.1
  · exact s.2.2.1
  · exact s.2.1
  · exact s.1
def zB (t : T14) : Bool := (t.1 == 0 && (t.2.1 == 0 && (t.2.2.1 == 0 && (t.2.2.2.1 == 0 && (t.2.2.2.2.1 == 0 && (t.2.2.2.2.2.1 == 0 && (t.2.2.2.2.2.2.1 == 0 && (t.2.2.2.2.2.2.2.1 == 0 && (t.2.2.2.2.2.2.2.2.1 == 0 && (t.2.2.2.2.2.2.2.2.2.1 == 0 && (t.2.2.2.2.2.2.2.2.2.2.1 == 0 && (t.2.2.2.2.2.2.2.2.2.2.2.1 == 0 && (t.2.2.2.2.2.2.2.2.2.2.2.2.1 == 0 && (t.2.2.2.2.2.2.2.2.2.2.2.2.2 == 0))))))))))))))
def nodeT (t : T14) (b n : Int) : S102 := ⟨⟨t.1, t.2.1, t.2.2.1, t.2.2.2.1, t.2.2.2.2.1, t.2.2.2.2.2.1, t.2.2.2.2.2.2.1, t.2.2.2.2.2.2.2.1, t.2.2.2.2.2.2.2.2.1, t.2.2.2.2.2.2.2.2.2.1, t.2.2.2.2.2.2.2.2.2.2.1, t.2.2.2.2.2.2.2.2.2.2.2.1, t.2.2.2.2.2.2.2.2.2.2.2.2.1, t.2.2.2.2.2.2.2.2.2.2.2.2.2⟩, ⟨IntKind.i16.wrap (wrap64 (wrap64 (b + wrap64 (3 * n)) + 0)), IntKind.i16.wrap (wrap64 (wrap64 (b + wrap64 (3 * n)) + 1)), IntKind.i16.wrap (wrap64 (wrap64 (b + wrap64 (3 * n)) + 2))⟩, ⟨0, false⟩, false⟩
def zbd (t : T14) (b : Int) : Nat → Nat → List S102
  | 0, _ => []
  | d + 1, n => nodeT t b n :: zbd t b d (n + 1)
theorem zvd (t : T14) (b : Int) : ∀ d n, (zbd t b d n).length = d := by
  intro d
  induction d with
  | zero => intro n; rfl
  | succ d ih => intro n; unfold zbd; rw [List.length_cons, ih]
theorem itree_l2 (t : T14) (a kd x32 x33 x48 x49 b x9 : Int) (out : List S102) (ho : out.length < 5864062014805) (l : List S43) (k : Nat) : impl_TreeOf.l2 (k + 1 + 1 + 1 + 1) a out b x9 x32 x33 x48 x49 0 a kd l t.1 t.2.1 t.2.2.1 t.2.2.2.1 t.2.2.2.2.1 t.2.2.2.2.2.1 t.2.2.2.2.2.2.1 t.2.2.2.2.2.2.2.1 t.2.2.2.2.2.2.2.2.1 t.2.2.2.2.2.2.2.2.2.1 t.2.2.2.2.2.2.2.2.2.2.1 t.2.2.2.2.2.2.2.2.2.2.2.1 t.2.2.2.2.2.2.2.2.2.2.2.2.1 t.2.2.2.2.2.2.2.2.2.2.2.2.2 t.1 t.2.1 t.2.2.1 t.2.2.2.1 t.2.2.2.2.1 t.2.2.2.2.2.1 t.2.2.2.2.2.2.1 t.2.2.2.2.2.2.2.1 t.2.2.2.2.2.2.2.2.1 t.2.2.2.2.2.2.2.2.2.1 t.2.2.2.2.2.2.2.2.2.2.1 t.2.2.2.2.2.2.2.2.2.2.2.1 t.2.2.2.2.2.2.2.2.2.2.2.2.1 t.2.2.2.2.2.2.2.2.2.2.2.2.2 0 0 0 0 false false = impl_TreeOf.l1 k a (out ++ [nodeT t b x9]) b x32 x33 x48 (wrap64 (x49 + 1)) a kd l t.1 t.2.1 t.2.2.1 t.2.2.2.1 t.2.2.2.2.1 t.2.2.2.2.2.1 t.2.2.2.2.2.2.1 t.2.2.2.2.2.2.2.1 t.2.2.2.2.2.2.2.2.1 t.2.2.2.2.2.2.2.2.2.1 t.2.2.2.2.2.2.2.2.2.2.1 t.2.2.2.2.2.2.2.2.2.2.2.1 t.2.2.2.2.2.2.2.2.2.2.2.2.1 t.2.2.2.2.2.2.2.2.2.2.2.2.2 := by
  rw [impl_TreeOf.l2.eq_2, if_pos (by decide), if_pos (by decide), wn_0, impl_TreeOf.l2.eq_2, if_pos (by decide), if_pos (by decide), wn_1, impl_TreeOf.l2.eq_2, if_pos (by decide), if_pos (by decide), wn_2, impl_TreeOf.l2.eq_2, if_neg (by decide), if_pos ho]
  rfl
theorem stree_l3 (t : T14) (a kd x8 b n : Int) (out : List S102) (ho : out.length < 5864062014805) (l : List S43) (k : Nat) : spec_TreeOf.l3 (k + 1 + 1 + 1 + 1) out x8 b n 0 a kd l t.1 t.2.1 t.2.2.1 t.2.2.2.1 t.2.2.2.2.1 t.2.2.2.2.2.1 t.2.2.2.2.2.2.1 t.2.2.2.2.2.2.2.1 t.2.2.2.2.2.2.2.2.1 t.2.2.2.2.2.2.2.2.2.1 t.2.2.2.2.2.2.2.2.2.2.1 t.2.2.2.2.2.2.2.2.2.2.2.1 t.2.2.2.2.2.2.2.2.2.2.2.2.1 t.2.2.2.2.2.2.2.2.2.2.2.2.2 0 0 0 0 false false = spec_TreeOf.l2 k (out ++ [nodeT t b n]) x8 b (wrap64 (n + 1)) a kd l := by
  rw [spec_TreeOf.l3.eq_2, if_pos (by decide), if_pos (by decide), wn_0, spec_TreeOf.l3.eq_2, if_pos (by decide), if_pos (by decide), wn_1, spec_TreeOf.l3.eq_2, if_pos (by decide), if_pos (by decide), wn_2, spec_TreeOf.l3.eq_2, if_neg (by decide), if_pos ho]
  rfl
theorem level (a kd : Int) (l : List S43) (t : T14) (i : Nat) (hi : i < 4) (hp : ∀ k, 20 < k → spec_l04Pans.f k a kd l i = some t) (b : Int) (K : Nat) (v w : List S102 × Int) :
    ∀ (d n : Nat) (out : List S102), n + d = pw i → out.length + d ≤ 2000 →
    (∀ k, K < k → spec_TreeOf.l1 k (out ++ zbd t b d n) b ((i + 1 : Nat) : Int) a kd l = some v ∧ impl_TreeOf.l0 k a (out ++ zbd t b d n) a ((i + 1 : Nat) : Int) a kd l = some w) →
    ∀ k, K + 6 * d + 30 < k → spec_TreeOf.l2 k out i b n a kd l = some v ∧ impl_TreeOf.l1 k a out b a i (pw i) n a kd l t.1 t.2.1 t.2.2.1 t.2.2.2.1 t.2.2.2.2.1 t.2.2.2.2.2.1 t.2.2.2.2.2.2.1 t.2.2.2.2.2.2.2.1 t.2.2.2.2.2.2.2.2.1 t.2.2.2.2.2.2.2.2.2.1 t.2.2.2.2.2.2.2.2.2.2.1 t.2.2.2.2.2.2.2.2.2.2.2.1 t.2.2.2.2.2.2.2.2.2.2.2.2.1 t.2.2.2.2.2.2.2.2.2.2.2.2.2 = some w := by
  have wi : wrap64 ((i : Int) + 1) = ((i + 1 : Nat) : Int) := by unfold wrap64; omega
  have pb := pw_le i (by omega)
  intro d
  induction d with
  | zero =>
    intro n out hn ho hv k hk
    obtain ⟨k, rfl⟩ : ∃ m, k = m + 1 := ⟨k - 1, by omega⟩
    have hv' := hv k (by omega)
    simp only [zbd, List.append_nil] at hv'
    rw [spec_TreeOf.l2.eq_2, impl_TreeOf.l1.eq_2, (zic i (by omega) k (by omega)).1]
    simp only [Option.bind_some]
    rw [if_neg (by omega), if_neg (by omega), wi]
    exact hv'
  | succ d ih =>
    intro n out hn ho hv k hk
    obtain ⟨k, rfl⟩ : ∃ m, k = m + 1 + 1 + 1 + 1 + 1 := ⟨k - 5, by omega⟩
    have wn : wrap64 ((n : Int) + 1) = ((n + 1 : Nat) : Int) := by clear ih wi hv hp; unfold wrap64; omega
    rw [spec_TreeOf.l2.eq_2, impl_TreeOf.l1.eq_2, (zic i (by omega) (k + 1 + 1 + 1 + 1) (by omega)).1]
    simp only [Option.bind_some]
    rw [if_pos (by omega), if_pos (by omega), hp (k + 1 + 1 + 1 + 1) (by omega)]
    simp only [Option.bind_some]
    rw [itree_l2 t a kd _ _ _ _ b _ out (by omega) l k, stree_l3 t a kd _ b _ out (by omega) l k, wn]
    exact ih (n + 1) (out ++ [nodeT t b n]) (by omega) (by rw [List.length_append, List.length_singleton]; omega) (fun k hk => by
      have h := hv k hk
      rw [List.append_assoc, List.singleton_append]
      exact h) k (by omega)
def leafT (g : Int × Bool × Bool) : S102 := ⟨⟨0, 0, 0, 0, 0, 0, 0, 0, 0, 0, 0, 0, 0, 0⟩, ⟨0, 0, 0⟩, (if g.2.2 = true then ⟨g.1, g.2.1⟩ else ⟨-1, false⟩), true⟩
theorem leaves (A : Nat) (ha : 1 ≤ A ∧ A ≤ 4) (kd : Int) (l : List S43) (w : Int → Int × Int × Int × Int) (g : Int → Int × Bool × Bool) (h : ∀ n k, 100 < k → spec_l04At.f k (A : Int) n = some (w n) ∧ impl_wordAt.f k (A : Int) n = some (w n) ∧
    spec_l04Decode.f k (A : Int) kd l (w n).1 (w n).2.1 (w n).2.2.1 (w n).2.2.2 = some (g n) ∧ impl_Fixed_decode.f k (A : Int) kd l (w n).1 (w n).2.1 (w n).2.2.1 (w n).2.2.2 = some (g n)) :
    ∀ (d n : Nat) (out : List S102), n + d = pw A → out.length + d ≤ 3000 → ∃ v : List S102 × Int, v.1.length ≤ 3000 ∧ ∀ k, d + 200 < k → spec_TreeOf.l4 k out n (A : Int) kd l = some v ∧ impl_TreeOf.l3 k (A : Int) out (pw A) n (A : Int) kd l = some v := by
  have wa : wrap64 (A : Int) = A := by unfold wrap64; omega
  have pb := pw_le A ha.2
  intro d
  induction d with
  | zero =>
    intro n out hn ho
    refine ⟨(out, 0), by simpa using ho, fun k hk => ?_⟩
    obtain ⟨k, rfl⟩ : ∃ m, k = m + 1 := ⟨k - 1, by omega⟩
    rw [spec_TreeOf.l4.eq_2, impl_TreeOf.l3.eq_2, wa, (zic A ha.2 k (by omega)).1]
    simp only [Option.bind_some]
    rw [if_neg (by omega), if_neg (by omega)]
    exact ⟨rfl, rfl⟩
  | succ d ih =>
    intro n out hn ho
    have wn : wrap64 ((n : Int) + 1) = ((n + 1 : Nat) : Int) := by clear ih wa h; unfold wrap64; omega
    obtain ⟨v, hl, hv⟩ := ih (n + 1) (out ++ [leafT (g n)]) (by omega) (by rw [List.length_append, List.length_singleton]; omega)
    refine ⟨v, hl, fun k hk => ?_⟩
    obtain ⟨k, rfl⟩ : ∃ m, k = m + 1 := ⟨k - 1, by omega⟩
    have hv' := hv k (by omega)
    obtain ⟨h1, h2, h3, h4⟩ := h (n : Int) k (by omega)
    rw [spec_TreeOf.l4.eq_2, impl_TreeOf.l3.eq_2, wa, (zic A ha.2 k (by omega)).1]
    simp only [Option.bind_some]
    have hnp : (n : Int) < (pw A : Int) := by omega
    rw [if_pos hnp, if_pos hnp, h1, h2]
    simp only [Option.bind_some]
    rw [h3, h4]
    simp only [Option.bind_some]
    rw [wn]
    have hlen : out.length < 5864062014805 := by omega
    by_cases c : (g (n : Int)).2.2 = true
    · unfold leafT at hv'
      rw [if_pos c] at hv'
      simp only [if_pos c, if_pos hlen]
      exact hv'
    · unfold leafT at hv'
      rw [if_neg c] at hv'
      simp only [if_neg c, if_pos hlen]
      exact hv'
def anz (f : Int → T14) : Nat → Nat → Bool
  | 0, _ => true
  | e + 1, i => !(zB (f (i : Int))) && anz f e (i + 1)
theorem outer (A : Nat) (ha : 1 ≤ A ∧ A ≤ 4) (kd : Int) (l : List S43) (f : Int → T14) (hf : ∀ i : Int, 0 ≤ i → i < 4 → ∀ k, 20 < k → spec_l04Pans.f k (A : Int) kd l i = some (f i) ∧ impl_Fixed_weighing.f k (A : Int) kd l i = some (f i))
    (hl : ∀ out : List S102, out.length ≤ 1000 → ∃ v : List S102 × Int, v.1.length ≤ 3000 ∧ ∀ k, 400 < k → spec_TreeOf.l4 k out 0 (A : Int) kd l = some v ∧ impl_TreeOf.l3 k (A : Int) out (pw A) 0 (A : Int) kd l = some v) :
    ∀ (e i : Nat) (out : List S102), i + e = A → out.length + 100 * e ≤ 1000 → ∃ v w : List S102 × Int, v.1.length ≤ 3000 ∧ w.1.length ≤ 3000 ∧ (∀ k, 600 * e + 500 < k → spec_TreeOf.l1 k out (out.length : Int) i (A : Int) kd l = some v ∧ impl_TreeOf.l0 k (A : Int) out (A : Int) i (A : Int) kd l = some w) ∧
      (anz f e i = true → w = v) ∧ (anz f e i = false → w = ([], 4)) := by
  have wa : wrap64 (A : Int) = A := by unfold wrap64; omega
  intro e
  induction e with
  | zero =>
    intro i out hi ho
    obtain ⟨v, vl, hv⟩ := hl out (by omega)
    refine ⟨v, v, vl, vl, fun k hk => ?_, fun _ => rfl, fun h => by simp [anz] at h⟩
    obtain ⟨k, rfl⟩ : ∃ m, k = m + 1 := ⟨k - 1, by omega⟩
    rw [spec_TreeOf.l1.eq_2, impl_TreeOf.l0.eq_2, wa, if_neg (by omega), if_neg (by omega), (zic A ha.2 k (by omega)).2]
    exact hv k (by omega)
  | succ e ih =>
    intro i out hi ho
    have pb := pw_le i (by omega)
    have wb : wrap64 ((out.length : Int) + (pw i : Int)) = ((out.length + pw i : Nat) : Int) := by clear ih wa hl hf; unfold wrap64; omega
    have hfi := hf (i : Int) (by omega) (by omega)
    obtain ⟨v, w, vl, wl, hv, h1, h2⟩ := ih (i + 1) (out ++ zbd (f i) ((out.length + pw i : Nat) : Int) (pw i) 0) (by omega) (by rw [List.length_append, zvd]; omega)
    have hlen : (out ++ zbd (f i) ((out.length + pw i : Nat) : Int) (pw i) 0).length = out.length + pw i := by rw [List.length_append, zvd]
    rw [hlen] at hv
    have lv := level (A : Int) kd l (f i) i (by omega) (fun k hk => (hfi k hk).1) ((out.length + pw i : Nat) : Int) (600 * e + 500) v w (pw i) 0 out (by omega) (by omega) hv
    have spec1 : ∀ k, 600 * (e + 1) + 500 < k → spec_TreeOf.l1 k out (out.length : Int) i (A : Int) kd l = some v := fun k hk => by
      obtain ⟨k, rfl⟩ : ∃ m, k = m + 1 := ⟨k - 1, by omega⟩
      rw [spec_TreeOf.l1.eq_2, wa, if_pos (by omega), (zic i (by omega) k (by omega)).1]
      simp only [Option.bind_some]
      rw [wb]
      exact (lv k (by omega)).1
    by_cases z : zB (f i) = true
    · refine ⟨v, ([], 4), vl, by simp, fun k hk => ⟨spec1 k hk, ?_⟩, fun h => by simp [anz, z] at h, fun _ => rfl⟩
      obtain ⟨k, rfl⟩ : ∃ m, k = m + 1 := ⟨k - 1, by omega⟩
      rw [impl_TreeOf.l0.eq_2, if_pos (by omega), (hfi k (by omega)).2]
      simp only [Option.bind_some]
      exact if_pos z
    · refine ⟨v, w, vl, wl, fun k hk => ⟨spec1 k hk, ?_⟩, fun h => h1 (by simpa [anz, z] using h), fun h => h2 (by simpa [anz, z] using h)⟩
      obtain ⟨k, rfl⟩ : ∃ m, k = m + 1 := ⟨k - 1, by omega⟩
      rw [impl_TreeOf.l0.eq_2, if_pos (by omega), (hfi k (by omega)).2]
      simp only [Option.bind_some]
      refine (if_neg z).trans ?_
      unfold impl_Node.f
      rw [(zic i (by omega) k (by omega)).2]
      simp only [Option.bind_some]
      rw [wb]
      exact (lv k (by omega)).2
theorem nz_or (t : T14) : (!(t.1 == 0) || (!(t.2.1 == 0) || (!(t.2.2.1 == 0) || (!(t.2.2.2.1 == 0) || (!(t.2.2.2.2.1 == 0) || (!(t.2.2.2.2.2.1 == 0) || (!(t.2.2.2.2.2.2.1 == 0) || (!(t.2.2.2.2.2.2.2.1 == 0) || (!(t.2.2.2.2.2.2.2.2.1 == 0) || (!(t.2.2.2.2.2.2.2.2.2.1 == 0) || (!(t.2.2.2.2.2.2.2.2.2.2.1 == 0) || (!(t.2.2.2.2.2.2.2.2.2.2.2.1 == 0) || (!(t.2.2.2.2.2.2.2.2.2.2.2.2.1 == 0) || (!(t.2.2.2.2.2.2.2.2.2.2.2.2.2 == 0))))))))))))))) = !(zB t) := by
  unfold zB
  simp only [Bool.not_and]
theorem pre (A : Nat) (ha : 1 ≤ A ∧ A ≤ 4) (kd : Int) (l : List S43) (f : Int → T14) (hf : ∀ i : Int, 0 ≤ i → i < 4 → ∀ k, 20 < k → spec_l04Pans.f k (A : Int) kd l i = some (f i)) (K : Nat) (v : List S102 × Int) (hv : ∀ k, K < k → spec_TreeOf.l1 k [] 0 0 (A : Int) kd l = some v) :
    ∀ (e i : Nat) (ok : Bool), i + e = A → ∀ k, K + e + 40 < k → spec_TreeOf.l0 k ok i (A : Int) kd l = some (if (ok && anz f e i) = true then v else ([], 4)) := by
  have wa : ze (wrap64 (A : Int) = A) := ⟨by unfold wrap64; omega⟩
  intro e
  induction e with
  | zero =>
    intro i ok hi k hk
    obtain ⟨k, rfl⟩ : ∃ m, k = m + 1 + 1 := ⟨k - 2, by omega⟩
    rw [spec_TreeOf.l0.eq_2, wa.out, if_neg (by omega), spec_TreeOf.j1.eq_2]
    cases ok with
    | true => rw [if_pos rfl, hv k (by omega)]; rfl
    | false => rfl
  | succ e ih =>
    intro i ok hi k hk
    obtain ⟨k, rfl⟩ : ∃ m, k = m + 1 + 1 := ⟨k - 2, by omega⟩
    have wi : ze (wrap64 ((i : Int) + 1) = ((i + 1 : Nat) : Int)) := ⟨by clear ih wa hv hf; unfold wrap64; omega⟩
    rw [spec_TreeOf.l0.eq_2, wa.out, if_pos (by omega)]
    cases ok with
    | true =>
      rw [if_pos rfl, hf (i : Int) (by omega) (by omega) (k + 1) (by omega)]
      rw [Option.bind_some, nz_or (f i), wi.out, ih (i + 1) _ (by omega) (k + 1) (by omega)]
      simp only [anz, Bool.true_and]
    | false => rw [if_neg (by decide), spec_TreeOf.j1.eq_2]; rfl
theorem tree_f {a kd : Int} (ha : -128 ≤ a ∧ a ≤ 127) (hk : -128 ≤ kd ∧ kd ≤ 127) (l : List S43) : ∃ v : List S102 × Int, v.1.length ≤ 3000 ∧ ∀ k, 20000 < k → spec_TreeOf.f k a kd l = some v ∧ impl_TreeOf.f k a kd l = some v := by
  by_cases o : okF a kd l = true
  · obtain ⟨a1, k1, l1, hw⟩ := okF_says o
    have wa : wrap64 a = a := by unfold wrap64; omega
    by_cases c : (l.length : Int) > 13
    · refine ⟨([], 2), by simp, fun k h => ?_⟩
      unfold spec_TreeOf.f impl_TreeOf.f
      rw [(zzc ha hk l k (by omega)).1, (zzc ha hk l k (by omega)).2, o]
      simp only [Option.bind_some, if_true]
      rw [if_pos c, if_pos c]; exact ⟨rfl, rfl⟩
    · obtain ⟨bal, hb⟩ := balanced_f (a := a) (kd := kd) l a1 l1.2 hw
      obtain ⟨A, rfl⟩ : ∃ A : Nat, a = (A : Int) := ⟨a.toNat, by omega⟩
      obtain ⟨f, hf⟩ := pans_f l (by omega) (A : Int) kd
      obtain ⟨w, g, hg⟩ := leaf_f (A : Int) kd l a1 (by omega)
      have hA : 1 ≤ A ∧ A ≤ 4 := by omega
      have pb := pw_le A hA.2
      have hl : ∀ out : List S102, out.length ≤ 1000 → ∃ v : List S102 × Int, v.1.length ≤ 3000 ∧ ∀ k, 400 < k → spec_TreeOf.l4 k out 0 (A : Int) kd l = some v ∧ impl_TreeOf.l3 k (A : Int) out (pw A) 0 (A : Int) kd l = some v := fun out ho => by
        obtain ⟨v, h1, h2⟩ := leaves A hA kd l w g hg (pw A) 0 out (by omega) (by omega)
        exact ⟨v, h1, fun k hk => h2 k (by omega)⟩
      obtain ⟨v, u, vl, ul, hv, h1, h2⟩ := outer A hA kd l f hf hl A 0 [] (by omega) (by simp; omega)
      have hs : ∀ k, 600 * A + 500 < k → spec_TreeOf.l1 k [] 0 0 (A : Int) kd l = some v := fun k hk => (hv k hk).1
      have hp := pre A hA kd l f (fun i h0 h4 k hk => (hf i h0 h4 k hk).1) (600 * A + 500) v hs A 0 bal (by omega)
      refine ⟨if (bal && anz f A 0) = true then v else ([], 4), by split; exact vl; simp, fun k h => ?_⟩
      have hp' : spec_TreeOf.l0 k bal 0 (A : Int) kd l = some (if (bal && anz f A 0) = true then v else ([], 4)) := hp k (by omega)
      have hi : impl_TreeOf.l0 k (A : Int) [] (A : Int) 0 (A : Int) kd l = some u := (hv k (by omega)).2
      unfold spec_TreeOf.f impl_TreeOf.f
      rw [(zzc ha hk l k (by omega)).1, (zzc ha hk l k (by omega)).2, o]
      simp only [Option.bind_some, if_true]
      rw [if_neg c, if_neg c, (hb k (by omega)).1, (hb k (by omega)).2]
      simp only [Option.bind_some]
      rw [hp', wa, hi]
      cases bal with
      | false => exact ⟨rfl, rfl⟩
      | true =>
        refine ⟨rfl, ?_⟩
        rw [if_pos rfl, Bool.true_and]
        cases q : anz f A 0 with
        | true => rw [h1 q]; rfl
        | false => rw [h2 q]; rfl
  · refine ⟨([], 1), by simp, fun k h => ?_⟩
    unfold spec_TreeOf.f impl_TreeOf.f
    rw [(zzc ha hk l k (by omega)).1, (zzc ha hk l k (by omega)).2]
    simp only [Option.bind_some]
    rw [if_neg o, if_neg o]; exact ⟨rfl, rfl⟩
end Go.Proofs.Ytmfbcklaomigaaa.M
