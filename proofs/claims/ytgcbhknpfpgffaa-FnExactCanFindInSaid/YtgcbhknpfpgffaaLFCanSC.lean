/- The reference's can over its memo says what can be found. -/
import Derived.Test.YtgcbhknpfpgffaaCx1
import Derived.Test.YtgcbhknpfpgffaaCx2
import Derived.Test.YtgcbhknpfpgffaaCx3
import Derived.Test.YtgcbhknpfpgffaaLCanC
import Derived.Test.YtgcbhknpfpgffaaLFSplitC
import Derived.Test.YtgcbhknpfpgffaaLFstC
import Derived.Test.YtgcbhknpfpgffaaLSBaseC
import Derived.Test.YtgcbhknpfpgffaaLSWeightC
import Derived.Test.YtgcbhknpfpgffaaLScnC
namespace Go.Proofs.Ytgcbhknpfpgffaa.C
open Go.RowKit Go.Proofs.YtgcbhknpfpgffaaW.PrintWords Go.Proofs.YtgcbhknpfpgffaaW.PrintLast Go.Proofs.YtgcbhknpfpgffaaW.PrintMore
set_option linter.unusedVariables false
set_option linter.unusedSimpArgs false

/-- So many questions find the number. -/
def CanP (n : Int) : Nat → T4 → Prop
  | 0, x => x.1 + x.2.1 + x.2.2.1 + x.2.2.2 ≤ 1
  | q + 1, x => x.1 + x.2.1 + x.2.2.1 + x.2.2.2 ≤ 1 ∨ (¬ zjc n ((q + 1 : Nat) : Int) x.1 x.2.1 x.2.2.1 x.2.2.2 > shl .i64 1 ((q + 1 : Nat) : Int)) ∧ P0 x.1 x.2.1 x.2.2.1 x.2.2.2 (fun a b c d => CanP n q (zlb n x (a, b, c, d)) ∧ CanP n q (noOf n x (a, b, c, d))) 0
section
variable {C : CT} {n qq x0 x1 x2 x3 : Int} {J : List Int → Prop} {c : T4 → Prop}
def Told (J : List Int → Prop) (P : Prop) (o : Option (Int × Int × Int × Int × Bool × List Int)) : Prop := ∃ r0 r1 r2 r3 b st, o = some (r0, r1, r2, r3, b, st) ∧ J st ∧ (b = true ↔ P)
theorem Told.of {P P' : Prop} {o : Option (Int × Int × Int × Int × Bool × List Int)} (h : Told J P o) (e : P' ↔ P) : Told J P' o := by
  obtain ⟨r0, r1, r2, r3, b, st, h1, h2, h3⟩ := h
  exact ⟨r0, r1, r2, r3, b, st, h1, h2, h3.trans e.symm⟩
theorem zqe (hx : GS n (x0, x1, x2, x3)) (HC : ∀ st y, J st → GS n y → ∃ b st', C st n y.1 y.2.1 y.2.2.1 y.2.2.2 (wrap64 (qq - 1)) = some (b, st') ∧ J st' ∧ (b = true ↔ c y)) : ∀ k : Nat,
    (∀ a0 a1 a2 a3 st, 0 ≤ a0 → a0 ≤ x0 + 1 → J st → (8 - a0) * 2000 + 4732 ≤ k → Told J (P0 x0 x1 x2 x3 (fun a b d e => c (zlb n (x0, x1, x2, x3) (a, b, d, e)) ∧ c (noOf n (x0, x1, x2, x3) (a, b, d, e))) a0) (spec_l06Finder_first.l0 C k qq st n x0 x1 x2 x3 a0 a1 a2 a3)) ∧
    (∀ a0 a1 a2 a3 st, 0 ≤ a0 → a0 ≤ x0 → 0 ≤ a1 → a1 ≤ x1 + 1 → J st → (8 - a0) * 2000 + (8 - a1) * 200 + 3131 ≤ k → Told J (P1 x0 x1 x2 x3 (fun a b d e => c (zlb n (x0, x1, x2, x3) (a, b, d, e)) ∧ c (noOf n (x0, x1, x2, x3) (a, b, d, e))) a0 a1) (spec_l06Finder_first.l1 C k qq st n x0 x1 x2 x3 a0 a1 a2 a3)) ∧
    (∀ a0 a1 a2 a3 st, 0 ≤ a0 → a0 ≤ x0 → 0 ≤ a1 → a1 ≤ x1 → 0 ≤ a2 → a2 ≤ x2 + 1 → J st → (8 - a0) * 2000 + (8 - a1) * 200 + (8 - a2) * 15 + 3010 ≤ k → Told J (P2 x0 x1 x2 x3 (fun a b d e => c (zlb n (x0, x1, x2, x3) (a, b, d, e)) ∧ c (noOf n (x0, x1, x2, x3) (a, b, d, e))) a0 a1 a2) (spec_l06Finder_first.l2 C k qq st n x0 x1 x2 x3 a0 a1 a2 a3)) ∧
    (∀ a0 a1 a2 a3 st, 0 ≤ a0 → a0 ≤ x0 → 0 ≤ a1 → a1 ≤ x1 → 0 ≤ a2 → a2 ≤ x2 → 0 ≤ a3 → a3 ≤ x3 + 1 → J st → (8 - a0) * 2000 + (8 - a1) * 200 + (8 - a2) * 15 + (9 - a3) + 3000 ≤ k → Told J (P3 x0 x1 x2 x3 (fun a b d e => c (zlb n (x0, x1, x2, x3) (a, b, d, e)) ∧ c (noOf n (x0, x1, x2, x3) (a, b, d, e))) a0 a1 a2 a3) (spec_l06Finder_first.l3 C k qq st n x0 x1 x2 x3 a0 a1 a2 a3)) := by
  obtain ⟨n0, n3, g0, g1, g2, g3, s8, zb, zc, zd⟩ := id hx
  simp only at g0 g1 g2 g3 s8
  intro k
  induction k with
  | zero => exact ⟨fun _ _ _ _ _ _ _ _ h => by omega, fun _ _ _ _ _ _ _ _ _ _ h => by omega, fun _ _ _ _ _ _ _ _ _ _ _ _ h => by omega, fun _ _ _ _ _ _ _ _ _ _ _ _ _ _ h => by omega⟩
  | succ k ih =>
    obtain ⟨ih0, ih1, ih2, ih3⟩ := ih
    have wn : ∀ a : Int, 0 ≤ a → a ≤ 100 → wrap64 (a + 1) = a + 1 := fun a h1 h2 => by unfold wrap64; omega
    refine ⟨?_, ?_, ?_, ?_⟩
    · intro a0 a1 a2 a3 st h0 h1 hj hk
      rw [spec_l06Finder_first.l0]
      by_cases e : a0 ≤ x0
      · rw [if_pos e]
        exact (ih1 a0 0 a2 a3 st h0 e (by omega) (by omega) hj (by omega)).of (zxd _ _ _ _ _ e)
      · rw [if_neg e]
        exact ⟨_, _, _, _, _, _, rfl, hj, ⟨fun h => absurd h (by decide), fun h => absurd h (P0_end _ _ _ _ _ (by omega))⟩⟩
    · intro a0 a1 a2 a3 st h0 h1 h2 h3 hj hk
      rw [spec_l06Finder_first.l1]
      by_cases e : a1 ≤ x1
      · rw [if_pos e]
        exact (ih2 a0 a1 0 a3 st h0 h1 h2 e (by omega) (by omega) hj (by omega)).of (zjd _ _ _ _ _ e)
      · rw [if_neg e, wn a0 h0 (by omega)]
        exact (ih0 (a0 + 1) a1 a2 a3 st (by omega) (by omega) hj (by omega)).of (P1_end _ _ _ _ _ (by omega))
    · intro a0 a1 a2 a3 st h0 h1 h2 h3 h4 h5 hj hk
      rw [spec_l06Finder_first.l2]
      by_cases e : a2 ≤ x2
      · rw [if_pos e]
        exact (ih3 a0 a1 a2 0 st h0 h1 h2 h3 h4 e (by omega) (by omega) hj (by omega)).of (ztc _ _ _ _ _ e)
      · rw [if_neg e, wn a1 h2 (by omega)]
        exact (ih1 a0 (a1 + 1) a2 a3 st h0 h1 (by omega) (by omega) hj (by omega)).of (P2_end _ _ _ _ _ (by omega))
    · intro a0 a1 a2 a3 st h0 h1 h2 h3 h4 h5 h6 h7 hj hk
      rw [spec_l06Finder_first.l3]
      by_cases e : a3 ≤ x3
      · have ga : GA (x0, x1, x2, x3) (a0, a1, a2, a3) := ⟨⟨h0, h1⟩, ⟨h2, h3⟩, ⟨h4, h5⟩, ⟨h6, e⟩⟩
        obtain ⟨b, st1, e1, j1, i1⟩ := HC st _ hj (zce hx ga)
        rw [if_pos e, (zxe n x0 x1 x2 x3 a0 a1 a2 a3 hx ga k (by omega)).1]
        simp only [Option.bind_some, znc]
        rw [e1]
        simp only [Option.bind_some]
        have hs := P3_step x0 x1 x2 x3 (fun a b d e => c (zlb n (x0, x1, x2, x3) (a, b, d, e)) ∧ c (noOf n (x0, x1, x2, x3) (a, b, d, e))) (a0 := a0) (a1 := a1) (a2 := a2) e
        cases b with
        | true =>
          obtain ⟨b2, st2, e2, j2, i2⟩ := HC st1 _ j1 (zff hx ga)
          rw [if_pos rfl, e2]
          simp only [Option.bind_some]
          cases b2 with
          | true =>
            rw [if_pos rfl]
            exact ⟨_, _, _, _, _, _, rfl, j2, ⟨fun _ => hs.mpr (.inl ⟨i1.mp rfl, i2.mp rfl⟩), fun _ => rfl⟩⟩
          | false =>
            rw [if_neg (by decide), wn a3 h6 (by omega)]
            refine (ih3 a0 a1 a2 (a3 + 1) st2 h0 h1 h2 h3 h4 h5 (by omega) (by omega) j2 (by omega)).of (hs.trans ⟨fun h => ?_, .inr⟩)
            rcases h with h | h
            · exact absurd (i2.mpr h.2) (by decide)
            · exact h
        | false =>
          rw [if_neg (by decide), wn a3 h6 (by omega)]
          refine (ih3 a0 a1 a2 (a3 + 1) st1 h0 h1 h2 h3 h4 h5 (by omega) (by omega) j1 (by omega)).of (hs.trans ⟨fun h => ?_, .inr⟩)
          rcases h with h | h
          · exact absurd (i1.mpr h.1) (by decide)
          · exact h
      · rw [if_neg e, wn a2 h4 (by omega)]
        exact (ih2 a0 a1 (a2 + 1) a3 st h0 h1 h2 h3 (by omega) (by omega) hj (by omega)).of (P3_end _ _ _ _ _ (by omega))
end
def ix (y : T4) (q : Nat) : Int := (((y.1 * 9 + y.2.1) * 9 + y.2.2.1) * 9 + y.2.2.2) * 21 + q
theorem zmd {n : Int} {y : T4} {q : Nat} (h : GS n y) (hq : q ≤ 20) : 0 ≤ ix y q ∧ ix y q < 137781 := by
  obtain ⟨n0, n3, a0, b0, c0, d0, s8, _⟩ := h
  unfold ix; omega
theorem ix_inj {n : Int} {y z : T4} {q r : Nat} (h : GS n y) (g : GS n z) (hq : q ≤ 20) (hr : r ≤ 20) (e : ix y q = ix z r) : y = z ∧ q = r := by
  obtain ⟨n0, n3, a0, b0, c0, d0, s8, _⟩ := h
  obtain ⟨_, _, a1, b1, c1, d1, s9, _⟩ := g
  obtain ⟨y0, y1, y2, y3⟩ := y
  obtain ⟨z0, z1, z2, z3⟩ := z
  unfold ix at e
  simp only at *
  have e1 : q = r := by omega
  subst e1
  have e2 : y3 = z3 := by omega
  have e3 : y2 = z2 := by omega
  have e4 : y1 = z1 := by omega
  have e5 : y0 = z0 := by omega
  subst e2 e3 e4 e5
  exact ⟨rfl, rfl⟩
theorem ix_wrap {n : Int} {y0 y1 y2 y3 : Int} {q : Nat} (h : GS n (y0, y1, y2, y3)) (hq : q ≤ 20) : wrap64 (wrap64 (wrap64 (wrap64 (wrap64 (wrap64 (wrap64 (wrap64 (y0 * 9) + y1) * 9) + y2) * 9) + y3) * 21) + (q : Int)) = ix (y0, y1, y2, y3) q := by
  obtain ⟨n0, n3, a0, b0, c0, d0, s8, _⟩ := h
  simp only at a0 b0 c0 d0 s8
  rw [zib (x := y0 * 9) (by omega) (by omega), zib (x := y0 * 9 + y1) (by omega) (by omega), zib (x := (y0 * 9 + y1) * 9) (by omega) (by omega), zib (x := (y0 * 9 + y1) * 9 + y2) (by omega) (by omega), zib (x := ((y0 * 9 + y1) * 9 + y2) * 9) (by omega) (by omega), zib (x := ((y0 * 9 + y1) * 9 + y2) * 9 + y3) (by omega) (by omega), zib (x := (((y0 * 9 + y1) * 9 + y2) * 9 + y3) * 21) (by omega) (by omega), zib (x := (((y0 * 9 + y1) * 9 + y2) * 9 + y3) * 21 + q) (by omega) (by omega)]
  rfl
theorem rd_wr {xs : List Int} {i j v : Int} (hi : 0 ≤ i) (hl : i < xs.length) (hj : 0 ≤ j) : rd (wr xs i v) j = if j = i then v else rd xs j := by
  unfold rd wr
  by_cases e : j = i
  · subst e
    rw [if_pos rfl, List.getD_eq_getElem?_getD, List.getElem?_set_self (by omega)]; rfl
  · rw [if_neg e, List.getD_eq_getElem?_getD, List.getD_eq_getElem?_getD, List.getElem?_set_ne (by omega)]
theorem zrd (xs : List Int) (i v : Int) : (wr xs i v).length = xs.length := by unfold wr; rw [List.length_set]
/-- What the memo says of so many questions and fewer is so. -/
def Inv (n : Int) (q : Nat) (st : List Int) : Prop := st.length = 137781 ∧ ∀ (r : Nat) (y : T4), r ≤ q → GS n y → rd st (ix y r) = 0 ∨ (rd st (ix y r) = 1 ∧ ¬ CanP n r y) ∨ (rd st (ix y r) = 2 ∧ CanP n r y)
theorem shl_u (q : Nat) (h : q ≤ 20) : IntKind.u64.wrap (q : Int) = q := by rw [IntKind.wrap_u64]; omega
theorem zse (a b c d : Int) (h : 0 ≤ a ∧ 0 ≤ b ∧ 0 ≤ c ∧ 0 ≤ d ∧ a + b + c + d ≤ 1000) : wrap64 (wrap64 (wrap64 (a + b) + c) + d) = a + b + c + d := by
  rw [zib (x := a + b) (by omega) (by omega), zib (x := a + b + c) (by omega) (by omega), zib (x := a + b + c + d) (by omega) (by omega)]
theorem gs_good {n a b c d : Int} (h : GS n (a, b, c, d)) : zec n a b c d := by
  obtain ⟨n0, n3, a0, b0, c0, d0, s8, zb, zc, zd⟩ := h
  simp only at *
  exact ⟨n0, n3, a0, by omega, b0, by omega, c0, by omega, d0, by omega, zb, zc, zd⟩
theorem zne (n : Int) : ∀ (q : Nat), q ≤ 20 → ∀ (m : Nat), q < m → ∀ (st : List Int) (y : T4), Inv n q st → GS n y →
    ∃ b st', canS m st n y.1 y.2.1 y.2.2.1 y.2.2.2 (q : Int) = some (b, st') ∧ (Inv n q st' ∧ ∀ (r : Nat) z, q < r → r ≤ 20 → GS n z → rd st' (ix z r) = rd st (ix z r)) ∧ (b = true ↔ CanP n q y) := by
  intro q
  induction q with
  | zero =>
    intro _ m hm st y hI hy
    obtain ⟨m, rfl⟩ : ∃ j, m = j + 1 := ⟨m - 1, by omega⟩
    obtain ⟨y0, y1, y2, y3⟩ := y
    obtain ⟨k, hk⟩ : ∃ k, K0 = k + 1 := ⟨999999, rfl⟩
    obtain ⟨n0, n3, a0, b0, c0, d0, s8, _⟩ := id hy
    show ∃ b st', spec_l06Finder_can.f (canS m) K0 K0 st n y0 y1 y2 y3 ((0 : Nat) : Int) = some (b, st') ∧ _
    unfold spec_l06Finder_can.f spec_l06Total.f
    simp only [Option.bind_some]
    simp only at a0 b0 c0 d0 s8
    rw [zse y0 y1 y2 y3 ⟨a0, b0, c0, d0, by omega⟩]
    by_cases c1 : y0 + y1 + y2 + y3 ≤ 1
    · rw [if_pos c1]
      exact ⟨true, st, rfl, ⟨hI, fun _ _ _ _ _ => rfl⟩, ⟨fun _ => c1, fun _ => rfl⟩⟩
    · rw [if_neg c1, if_pos (by decide), hk]
      rw [spec_l06Finder_can.j0, if_pos rfl]
      exact ⟨false, st, rfl, ⟨hI, fun _ _ _ _ _ => rfl⟩, ⟨fun h => absurd h (by decide), fun h => absurd h c1⟩⟩
  | succ q ih =>
    intro hq m hm st y hI hy
    obtain ⟨m, rfl⟩ : ∃ j, m = j + 1 := ⟨m - 1, by omega⟩
    have ih' := ih (by omega) m (by omega)
    obtain ⟨y0, y1, y2, y3⟩ := y
    obtain ⟨k, hk, hk2⟩ : ∃ k, K0 = k + 1 ∧ 30000 ≤ k := ⟨999999, rfl, by omega⟩
    obtain ⟨n0, n3, a0, b0, c0, d0, s8, _⟩ := id hy
    show ∃ b st', spec_l06Finder_can.f (canS m) K0 K0 st n y0 y1 y2 y3 ((q + 1 : Nat) : Int) = some (b, st') ∧ _
    unfold spec_l06Finder_can.f spec_l06Total.f
    simp only [Option.bind_some]
    simp only at a0 b0 c0 d0 s8
    rw [zse y0 y1 y2 y3 ⟨a0, b0, c0, d0, by omega⟩]
    by_cases c1 : y0 + y1 + y2 + y3 ≤ 1
    · rw [if_pos c1]
      exact ⟨true, st, rfl, ⟨hI, fun _ _ _ _ _ => rfl⟩, ⟨fun _ => .inl c1, fun _ => rfl⟩⟩
    rw [if_neg c1, if_neg (by omega), zsd (gs_good hy) (by omega) (by omega) K0 (by rw [hk]; omega)]
    simp only [Option.bind_some]
    rw [shl_u (q + 1) hq, if_pos (by omega)]
    by_cases c2 : zjc n ((q + 1 : Nat) : Int) y0 y1 y2 y3 > shl .i64 1 ((q + 1 : Nat) : Int)
    · rw [decide_eq_true c2, hk, spec_l06Finder_can.j0, if_pos rfl]
      refine ⟨false, st, rfl, ⟨hI, fun _ _ _ _ _ => rfl⟩, ⟨fun h => absurd h (by decide), fun h => ?_⟩⟩
      rcases h with h | h
      · exact absurd h c1
      · exact absurd c2 h.1
    obtain ⟨i, hi⟩ : ∃ i, ix (y0, y1, y2, y3) (q + 1) = i := ⟨_, rfl⟩
    have ir := zmd hy hq
    rw [hi] at ir
    have hlen := hI.1
    have e0 : spec_l06Finder_can.j0 (canS m) K0 K0 ((q + 1 : Nat) : Int) false st n y0 y1 y2 y3 = (if rd st i = 0 then ((spec_l06Finder_first.f (canS m) K0 (wr st i 1) n y0 y1 y2 y3 ((q + 1 : Nat) : Int)).bind fun bt => (if bt.2.2.2.2.1 = true then (some ((rd (wr bt.2.2.2.2.2 i 2) i == 2), wr bt.2.2.2.2.2 i 2)) else (some ((rd bt.2.2.2.2.2 i == 2), bt.2.2.2.2.2)))) else (some ((rd st i == 2), st))) := by
      have e1 : ∀ k', spec_l06Finder_can.j0 (canS m) K0 (k' + 1) ((q + 1 : Nat) : Int) false st n y0 y1 y2 y3 = (if rd st i = 0 then ((spec_l06Finder_first.f (canS m) K0 (wr st i 1) n y0 y1 y2 y3 ((q + 1 : Nat) : Int)).bind fun bt => (if bt.2.2.2.2.1 = true then (some ((rd (wr bt.2.2.2.2.2 i 2) i == 2), wr bt.2.2.2.2.2 i 2)) else (some ((rd bt.2.2.2.2.2 i == 2), bt.2.2.2.2.2)))) else (some ((rd st i == 2), st))) := fun k' => by
        rw [spec_l06Finder_can.j0, if_neg (by decide), ix_wrap hy hq, hi, if_pos ir.1, if_pos ir.2]
      have := e1 k
      rw [← hk] at this
      exact this
    rw [decide_eq_false c2, e0]
    have old := hI.2 (q + 1) (y0, y1, y2, y3) (Nat.le_refl _) hy
    rw [hi] at old
    by_cases c3 : rd st i = 0
    · rw [if_pos c3]
      have hne : ∀ (r : Nat) z, r ≤ 20 → GS n z → ¬ (z = (y0, y1, y2, y3) ∧ r = q + 1) → ix z r ≠ i := fun r z hr hz hn e => hn (ix_inj hz hy hr hq (e.trans hi.symm))
      have rw1 : ∀ (s : List Int) (v : Int) (r : Nat) z, s.length = 137781 → r ≤ 20 → GS n z → ¬ (z = (y0, y1, y2, y3) ∧ r = q + 1) → rd (wr s i v) (ix z r) = rd s (ix z r) := fun s v r z hs hr hz hn => by
        rw [rd_wr ir.1 (by omega) (zmd hz hr).1, if_neg (hne r z hr hz hn)]
      have J1 : Inv n q (wr st i 1) ∧ ∀ (r : Nat) z, q < r → r ≤ 20 → GS n z → rd (wr st i 1) (ix z r) = rd (wr st i 1) (ix z r) := by
        refine ⟨⟨by rw [zrd]; exact hlen, fun r z hr hz => ?_⟩, fun _ _ _ _ _ => rfl⟩
        rw [rw1 st 1 r z hlen (by omega) hz (fun h => by have := h.2; omega)]
        exact hI.2 r z (by omega) hz
      have wq : wrap64 (((q + 1 : Nat) : Int) - 1) = (q : Int) := by unfold wrap64; omega
      obtain ⟨r0, r1, r2, r3, b, st2, ef, ⟨j2, f2⟩, ib⟩ := (zqe (C := canS m) (n := n) (qq := ((q + 1 : Nat) : Int)) (J := fun s => Inv n q s ∧ ∀ (r : Nat) z, q < r → r ≤ 20 → GS n z → rd s (ix z r) = rd (wr st i 1) (ix z r)) (c := CanP n q) hy (by
        intro s z hs hz
        rw [wq]
        obtain ⟨b, s', e, ⟨g1, g2⟩, g3⟩ := ih' s z hs.1 hz
        exact ⟨b, s', e, ⟨g1, fun r u h1 h2 h3 => (g2 r u h1 h2 h3).trans (hs.2 r u h1 h2 h3)⟩, g3⟩) K0).1 0 0 0 0 (wr st i 1) (by decide) (by omega) J1 (by rw [hk]; omega)
      have ef' : spec_l06Finder_first.f (canS m) K0 (wr st i 1) n y0 y1 y2 y3 ((q + 1 : Nat) : Int) = some (r0, r1, r2, r3, b, st2) := ef
      have h2i : rd st2 i = 1 := by
        have := f2 (q + 1) (y0, y1, y2, y3) (by omega) hq hy
        rw [hi, rd_wr ir.1 (by omega) ir.1, if_pos rfl] at this
        exact this
      have keep : ∀ (r : Nat) z, q < r → r ≤ 20 → GS n z → ¬ (z = (y0, y1, y2, y3) ∧ r = q + 1) → rd st2 (ix z r) = rd st (ix z r) := fun r z h1 h2 h3 h4 => by
        rw [f2 r z h1 h2 h3, rw1 st 1 r z hlen h2 h3 h4]
      rw [ef']
      simp only [Option.bind_some]
      have l2 := j2.1
      cases b with
      | true =>
        have can : CanP n (q + 1) (y0, y1, y2, y3) := .inr ⟨c2, ib.mp rfl⟩
        have e2 : rd (wr st2 i 2) i = 2 := by rw [rd_wr ir.1 (by omega) ir.1, if_pos rfl]
        rw [if_pos rfl, e2]
        refine ⟨_, _, rfl, ⟨⟨by rw [zrd]; exact l2, fun r z hr hz => ?_⟩, fun r z h1 h2 h3 => ?_⟩, ⟨fun _ => can, fun _ => rfl⟩⟩
        · by_cases c4 : z = (y0, y1, y2, y3) ∧ r = q + 1
          · obtain ⟨rfl, rfl⟩ := c4
            rw [hi, e2]; exact .inr (.inr ⟨rfl, can⟩)
          · rw [rw1 st2 2 r z l2 (by omega) hz c4]
            by_cases c5 : r ≤ q
            · exact j2.2 r z c5 hz
            · rw [keep r z (by omega) (by omega) hz c4]; exact hI.2 r z hr hz
        · have c4 : ¬ (z = (y0, y1, y2, y3) ∧ r = q + 1) := fun h => by have := h.2; omega
          rw [rw1 st2 2 r z l2 h2 h3 c4, keep r z (by omega) h2 h3 c4]
      | false =>
        have can : ¬ CanP n (q + 1) (y0, y1, y2, y3) := fun h => by
          rcases h with h | h
          · exact absurd h c1
          · exact absurd (ib.mpr h.2) (by decide)
        rw [if_neg (by decide), h2i]
        refine ⟨_, _, rfl, ⟨⟨l2, fun r z hr hz => ?_⟩, fun r z h1 h2 h3 => ?_⟩, ⟨fun h => absurd h (by decide), fun h => absurd h can⟩⟩
        · by_cases c4 : z = (y0, y1, y2, y3) ∧ r = q + 1
          · obtain ⟨rfl, rfl⟩ := c4
            rw [hi, h2i]; exact .inr (.inl ⟨rfl, can⟩)
          · by_cases c5 : r ≤ q
            · exact j2.2 r z c5 hz
            · rw [keep r z (by omega) (by omega) hz c4]; exact hI.2 r z hr hz
        · exact keep r z (by omega) h2 h3 (fun h => by have := h.2; omega)
    · rw [if_neg c3]
      refine ⟨_, st, rfl, ⟨hI, fun _ _ _ _ _ => rfl⟩, ?_⟩
      rcases old with h | ⟨h, h'⟩ | ⟨h, h'⟩
      · exact absurd h c3
      · rw [h]; exact ⟨fun e => absurd e (by decide), fun e => absurd e h'⟩
      · rw [h]; exact ⟨fun _ => h', fun _ => rfl⟩

end Go.Proofs.Ytgcbhknpfpgffaa.C
