/- What is seen of a case, as a word; it is valid. -/
import Derived.Test.YtmfbcklaomigaaaLNDistN
import Derived.Test.YtmfbcklaomigaaaLTBaseN
import Derived.Test.YtmfbcklaomigaaaLTCasesN
import Derived.Test.YtmfbcklaomigaaaLTOkN
import Derived.Test.YtmfbcklaomigaaaNx11
import Derived.Test.YtmfbcklaomigaaaNx12
import Derived.Test.YtmfbcklaomigaaaNx15
import Derived.Test.YtmfbcklaomigaaaNx18
import Derived.Test.YtmfbcklaomigaaaNx19
import Derived.Test.YtmfbcklaomigaaaNx21
import Derived.Test.YtmfbcklaomigaaaNx8
namespace Go.Proofs.Ytmfbcklaomigaaa.N
open Go.RowKit Go.Proofs.YtmfbcklaomigaaaW.PrintWords Go.Proofs.YtmfbcklaomigaaaW.PrintLast Go.Proofs.YtmfbcklaomigaaaW.PrintMore
set_option linter.unusedVariables false
set_option linter.unusedSimpArgs false

def sn (l : List S43) (c : S38) : T4 :=
  if c.f0 < 0 then (0, 0, 0, 0) else if c.f1 = true then ((zx l c.f0).f0, (zx l c.f0).f1, (zx l c.f0).f2, (zx l c.f0).f3)
  else (IntKind.i8.wrap (-(zx l c.f0).f0), IntKind.i8.wrap (-(zx l c.f0).f1), IntKind.i8.wrap (-(zx l c.f0).f2), IntKind.i8.wrap (-(zx l c.f0).f3))
def wB (a : Int) (t : T4) : Prop := zad a t.1 t.2.1 t.2.2.1 t.2.2.2 = true
theorem zfd {a : Int} {t : T4} : wB a t ↔ okAt a 0 t.1 = true ∧ okAt a 1 t.2.1 = true ∧ okAt a 2 t.2.2.1 = true ∧ okAt a 3 t.2.2.2 = true := by
  unfold wB zad; simp only [Bool.and_eq_true]
theorem zqb {a i x : Int} : okAt a i x = true ↔ -1 ≤ x ∧ x ≤ 1 ∧ (a ≤ i → x = 0) := by
  unfold okAt; exact decide_eq_true_iff
theorem zld {a i x : Int} (h : okAt a i x = true) : okAt a i (IntKind.i8.wrap (-x)) = true := by
  obtain ⟨h1, h2, h3⟩ := zqb.mp h
  rw [zmb (by omega)]
  exact zqb.mpr ⟨by omega, by omega, fun e => by have := h3 e; omega⟩
theorem ztc (a i : Int) : okAt a i 0 = true := zqb.mpr ⟨by decide, by decide, fun _ => rfl⟩
theorem wB_zero (a : Int) : wB a (0, 0, 0, 0) := zfd.mpr ⟨ztc _ _, ztc _ _, ztc _ _, ztc _ _⟩
theorem sn_f (a kd : Int) (l : List S43) (c : S38) (hx : c.f0 < l.length) (k : Nat) (hk : 10 < k) : spec_l04Seen.f k a kd l c.f0 c.f1 = some (sn l c) ∧ impl_Fixed_seen.f k a kd l c.f0 c.f1 = some (sn l c) := by
  obtain ⟨x, b⟩ := c
  have hx' : x < l.length := hx
  show spec_l04Seen.f k a kd l x b = some (sn l ⟨x, b⟩) ∧ impl_Fixed_seen.f k a kd l x b = some (sn l ⟨x, b⟩)
  unfold sn
  show spec_l04Seen.f k a kd l x b = some (if x < 0 then _ else if b = true then _ else _) ∧ impl_Fixed_seen.f k a kd l x b = some (if x < 0 then _ else if b = true then _ else _)
  by_cases c : x < 0
  · unfold spec_l04Seen.f impl_Fixed_seen.f
    rw [if_pos c, if_pos c, if_pos c]; exact ⟨rfl, rfl⟩
  · cases b with
    | true =>
      unfold spec_l04Seen.f impl_Fixed_seen.f
      rw [if_neg c, if_neg c, if_neg c, if_pos rfl, if_pos rfl, if_pos rfl, if_pos (show 0 ≤ x by omega), if_pos hx']
      exact ⟨rfl, rfl⟩
    | false =>
      unfold spec_l04Seen.f impl_Fixed_seen.f
      rw [if_neg c, if_neg c, if_neg c, if_neg (show ¬ (false = true) by decide), if_neg (show ¬ (false = true) by decide), if_neg (show ¬ (false = true) by decide), if_pos (show 0 ≤ x by omega), if_pos hx', if_pos (show 0 ≤ x by omega), if_pos hx', (opp_f _ _ _ _ k (by omega)).1, (opp_f _ _ _ _ k (by omega)).2]
      exact ⟨rfl, rfl⟩
theorem sn_ok {a : Int} {l : List S43} (h : ∀ x ∈ l, zad a x.f0 x.f1 x.f2 x.f3 = true) (c : S38) (hx : c.f0 < l.length) : wB a (sn l c) := by
  unfold sn
  by_cases c1 : c.f0 < 0
  · rw [if_pos c1]; exact wB_zero a
  · rw [if_neg c1]
    obtain ⟨n, hn⟩ : ∃ n : Nat, c.f0 = n := ⟨c.f0.toNat, by omega⟩
    have hw : wB a ((zx l c.f0).f0, (zx l c.f0).f1, (zx l c.f0).f2, (zx l c.f0).f3) := by
      rw [hn, rd43_at]; exact h _ (getD43_mem l n (by omega))
    by_cases c2 : c.f1 = true
    · rw [if_pos c2]; exact hw
    · rw [if_neg c2]
      obtain ⟨h0, h1, h2, h3⟩ := zfd.mp hw
      exact zfd.mpr ⟨zld h0, zld h1, zld h2, zld h3⟩
theorem dist_f (x y : T4) (k : Nat) (hk : 5 < k) : impl_distance.f k x.1 x.2.1 x.2.2.1 x.2.2.2 y.1 y.2.1 y.2.2.1 y.2.2.2 = some (dist x y) ∧ spec_l04Distance.f k x.1 x.2.1 x.2.2.1 x.2.2.2 y.1 y.2.1 y.2.2.1 y.2.2.2 = some (dist x y) := distance_f x y k hk
theorem setW {a i v : Int} {t : T4} (h : wB a t) (h0 : 0 ≤ i) (ha : i < a) (h1 : -1 ≤ v ∧ v ≤ 1) : wB a (zu i 0 v t.1, zu i 1 v t.2.1, zu i 2 v t.2.2.1, zu i 3 v t.2.2.2) := by
  obtain ⟨e0, e1, e2, e3⟩ := zfd.mp h
  have g : ∀ j x : Int, okAt a j x = true → okAt a j (zu i j v x) = true := fun j x e => by
    unfold zu
    by_cases c : i = j
    · rw [if_pos c]; exact zqb.mpr ⟨h1.1, h1.2, fun q => absurd q (by omega)⟩
    · rw [if_neg c]; exact e
  exact zfd.mpr ⟨g _ _ e0, g _ _ e1, g _ _ e2, g _ _ e3⟩
theorem seenOf_f {a kd : Int} {l : List S43} (hok : okF a kd l = true) (h13 : l.length ≤ 13) (c : S38) (hc : zbd kd l.length c) (k : Nat) (hk : 200 < k) :
    spec_SeenOf.f k a kd l c.f0 c.f1 = some ((sn l c).1, (sn l c).2.1, (sn l c).2.2.1, (sn l c).2.2.2, 0) := by
  obtain ⟨⟨ha1, ha4⟩, ⟨hk0, hk2⟩, ⟨hl1, hl2⟩, hall⟩ := zuc hok
  have hx : c.f0 < l.length := by rcases hc with ⟨e, _⟩ | ⟨_, e, _⟩ <;> omega
  have h0 : -1 ≤ c.f0 := by rcases hc with ⟨e, _⟩ | ⟨e, _⟩ <;> omega
  have w1 : wrap64 c.f0 = c.f0 := by unfold wrap64; omega
  have w2 : wrap64 ((l.length : Int) - 1) = l.length - 1 := by unfold wrap64; omega
  unfold spec_SeenOf.f
  rw [(zod (by omega) (by omega) l k hk).1, hok, (sn_f a kd l c hx k (by omega)).1, w1, w2]
  simp only [Option.bind_some, if_true]
  unfold spec_l00In.f
  rw [if_pos (show c.f0 ≥ -1 from h0), decide_eq_true (show c.f0 ≤ (l.length : Int) - 1 by omega)]
  simp only [Option.bind_some, if_true]
  by_cases c1 : c.f0 < 0
  · rw [if_pos c1]
    have e : c.f1 = false := by
      rcases hc with ⟨_, e⟩ | ⟨e, _⟩
      · exact e
      · omega
    rw [if_neg (by rw [e]; decide)]
  · rw [if_neg c1]
    have hc' : (c.f1 = true → kd ≠ 1) ∧ (c.f1 = false → kd ≠ 0) := by
      rcases hc with ⟨e, _⟩ | ⟨_, _, e1, e2⟩
      · omega
      · exact ⟨e1, e2⟩
    cases hb : c.f1 with
    | true => rw [if_pos rfl, if_neg (hc'.1 hb)]
    | false => rw [if_neg (by decide), if_neg (hc'.2 hb)]

end Go.Proofs.Ytmfbcklaomigaaa.N
