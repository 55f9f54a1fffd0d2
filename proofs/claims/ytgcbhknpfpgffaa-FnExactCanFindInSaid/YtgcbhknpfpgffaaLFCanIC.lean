/- The searcher's can over its map says what can be found. -/
import Derived.Test.YtgcbhknpfpgffaaCx4
import Derived.Test.YtgcbhknpfpgffaaCx6
import Derived.Test.YtgcbhknpfpgffaaCx7
import Derived.Test.YtgcbhknpfpgffaaLAskC
import Derived.Test.YtgcbhknpfpgffaaLCanC
import Derived.Test.YtgcbhknpfpgffaaLFCanSC
import Derived.Test.YtgcbhknpfpgffaaLFSplitC
import Derived.Test.YtgcbhknpfpgffaaLFstC
import Derived.Test.YtgcbhknpfpgffaaLIcnC
import Derived.Test.YtgcbhknpfpgffaaLSBaseC
import Derived.Test.YtgcbhknpfpgffaaLSWeightC
import Derived.Test.YtgcbhknpfpgffaaLScnC
namespace Go.Proofs.Ytgcbhknpfpgffaa.C
open Go.RowKit Go.Proofs.YtgcbhknpfpgffaaW.PrintWords Go.Proofs.YtgcbhknpfpgffaaW.PrintLast Go.Proofs.YtgcbhknpfpgffaaW.PrintMore
set_option linter.unusedVariables false
set_option linter.unusedSimpArgs false

theorem d32 : wrap64 (3 - 1) = 2 := by unfold wrap64; omega
theorem d21 : wrap64 (2 - 1) = 1 := by unfold wrap64; omega
theorem d10 : wrap64 (1 - 1) = 0 := by unfold wrap64; omega
theorem d0m : wrap64 (0 - 1) = -1 := by unfold wrap64; omega
section
variable {C : CI} {n qq x0 x1 x2 x3 : Int} {J : MS → Prop} {c : T4 → Prop}
theorem l1_eq3 {a0 a1 a2 a3 : Int} {st : MS} (k : Nat) (h : a3 = x3) : impl_searcher_ask.l1 C (k + 1) qq 3 st n x0 x1 x2 x3 a0 a1 a2 a3 = impl_searcher_ask.l1 C k qq 2 st n x0 x1 x2 x3 a0 a1 a2 0 := by
  rw [impl_searcher_ask.l1, if_pos (show (3 : Int) ≥ 0 by decide), if_pos (show (0 : Int) ≤ 3 by decide), if_pos (show (3 : Int) < 4 by decide), rd3, rd3, if_pos h, d32]
  rfl
theorem l1_ne3 {a0 a1 a2 a3 : Int} {st : MS} (k : Nat) (h : ¬ a3 = x3) (h0 : 0 ≤ a3) (h1 : a3 ≤ 100) : impl_searcher_ask.l1 C (k + 1) qq 3 st n x0 x1 x2 x3 a0 a1 a2 a3 = impl_searcher_ask.l0 C k qq st n x0 x1 x2 x3 a0 a1 a2 (a3 + 1) := by
  rw [impl_searcher_ask.l1, if_pos (show (3 : Int) ≥ 0 by decide), if_pos (show (0 : Int) ≤ 3 by decide), if_pos (show (3 : Int) < 4 by decide), rd3, rd3, if_neg h, if_neg (show ¬ (3 : Int) < 0 by decide), show wrap64 (a3 + 1) = a3 + 1 by unfold wrap64; omega]
  rfl
theorem l1_eq2 {a0 a1 a2 a3 : Int} {st : MS} (k : Nat) (h : a2 = x2) : impl_searcher_ask.l1 C (k + 1) qq 2 st n x0 x1 x2 x3 a0 a1 a2 a3 = impl_searcher_ask.l1 C k qq 1 st n x0 x1 x2 x3 a0 a1 0 a3 := by
  rw [impl_searcher_ask.l1, if_pos (show (2 : Int) ≥ 0 by decide), if_pos (show (0 : Int) ≤ 2 by decide), if_pos (show (2 : Int) < 4 by decide), rd2, rd2, if_pos h, d21]
  rfl
theorem l1_ne2 {a0 a1 a2 a3 : Int} {st : MS} (k : Nat) (h : ¬ a2 = x2) (h0 : 0 ≤ a2) (h1 : a2 ≤ 100) : impl_searcher_ask.l1 C (k + 1) qq 2 st n x0 x1 x2 x3 a0 a1 a2 a3 = impl_searcher_ask.l0 C k qq st n x0 x1 x2 x3 a0 a1 (a2 + 1) a3 := by
  rw [impl_searcher_ask.l1, if_pos (show (2 : Int) ≥ 0 by decide), if_pos (show (0 : Int) ≤ 2 by decide), if_pos (show (2 : Int) < 4 by decide), rd2, rd2, if_neg h, if_neg (show ¬ (2 : Int) < 0 by decide), show wrap64 (a2 + 1) = a2 + 1 by unfold wrap64; omega]
  rfl
theorem l1_eq1 {a0 a1 a2 a3 : Int} {st : MS} (k : Nat) (h : a1 = x1) : impl_searcher_ask.l1 C (k + 1) qq 1 st n x0 x1 x2 x3 a0 a1 a2 a3 = impl_searcher_ask.l1 C k qq 0 st n x0 x1 x2 x3 a0 0 a2 a3 := by
  rw [impl_searcher_ask.l1, if_pos (show (1 : Int) ≥ 0 by decide), if_pos (show (0 : Int) ≤ 1 by decide), if_pos (show (1 : Int) < 4 by decide), rd1, rd1, if_pos h, d10]
  rfl
theorem l1_ne1 {a0 a1 a2 a3 : Int} {st : MS} (k : Nat) (h : ¬ a1 = x1) (h0 : 0 ≤ a1) (h1 : a1 ≤ 100) : impl_searcher_ask.l1 C (k + 1) qq 1 st n x0 x1 x2 x3 a0 a1 a2 a3 = impl_searcher_ask.l0 C k qq st n x0 x1 x2 x3 a0 (a1 + 1) a2 a3 := by
  rw [impl_searcher_ask.l1, if_pos (show (1 : Int) ≥ 0 by decide), if_pos (show (0 : Int) ≤ 1 by decide), if_pos (show (1 : Int) < 4 by decide), rd1, rd1, if_neg h, if_neg (show ¬ (1 : Int) < 0 by decide), show wrap64 (a1 + 1) = a1 + 1 by unfold wrap64; omega]
  rfl
theorem l1_eq0 {a0 a1 a2 a3 : Int} {st : MS} (k : Nat) (h : a0 = x0) : impl_searcher_ask.l1 C (k + 1) qq 0 st n x0 x1 x2 x3 a0 a1 a2 a3 = impl_searcher_ask.l1 C k qq (-1) st n x0 x1 x2 x3 0 a1 a2 a3 := by
  rw [impl_searcher_ask.l1, if_pos (show (0 : Int) ≥ 0 by decide), if_pos (show (0 : Int) ≤ 0 by decide), if_pos (show (0 : Int) < 4 by decide), rd0, rd0, if_pos h, d0m]
  rfl
theorem l1_ne0 {a0 a1 a2 a3 : Int} {st : MS} (k : Nat) (h : ¬ a0 = x0) (h0 : 0 ≤ a0) (h1 : a0 ≤ 100) : impl_searcher_ask.l1 C (k + 1) qq 0 st n x0 x1 x2 x3 a0 a1 a2 a3 = impl_searcher_ask.l0 C k qq st n x0 x1 x2 x3 (a0 + 1) a1 a2 a3 := by
  rw [impl_searcher_ask.l1, if_pos (show (0 : Int) ≥ 0 by decide), if_pos (show (0 : Int) ≤ 0 by decide), if_pos (show (0 : Int) < 4 by decide), rd0, rd0, if_neg h, if_neg (show ¬ (0 : Int) < 0 by decide), show wrap64 (a0 + 1) = a0 + 1 by unfold wrap64; omega]
  rfl
theorem l1_end {a0 a1 a2 a3 : Int} {st : MS} (k : Nat) : impl_searcher_ask.l1 C (k + 1) qq (-1) st n x0 x1 x2 x3 a0 a1 a2 a3 = some (0, 0, 0, 0, false, st) := by
  rw [impl_searcher_ask.l1, if_neg (show ¬ (-1 : Int) ≥ 0 by decide), if_pos (show (-1 : Int) < 0 by decide)]
def zcf (J : MS → Prop) (P : Prop) (o : Option (Int × Int × Int × Int × Bool × MS)) : Prop := ∃ r0 r1 r2 r3 b st, o = some (r0, r1, r2, r3, b, st) ∧ J st ∧ (b = true ↔ P)
theorem zcf.of {P P' : Prop} {o : Option (Int × Int × Int × Int × Bool × MS)} (h : zcf J P o) (e : P' ↔ P) : zcf J P' o := by
  obtain ⟨r0, r1, r2, r3, b, st, h1, h2, h3⟩ := h
  exact ⟨r0, r1, r2, r3, b, st, h1, h2, h3.trans e.symm⟩
theorem ask_all (hx : GS n (x0, x1, x2, x3)) (HC : ∀ st y, J st → GS n y → ∃ b st', C st n y.1 y.2.1 y.2.2.1 y.2.2.2 (wrap64 (qq - 1)) = some (b, st') ∧ J st' ∧ (b = true ↔ c y)) : ∀ (N : Nat) (k : Nat), k ≤ N →
    ∀ a0 a1 a2 a3 st, 0 ≤ a0 → a0 ≤ x0 → 0 ≤ a1 → a1 ≤ x1 → 0 ≤ a2 → a2 ≤ x2 → 0 ≤ a3 → a3 ≤ x3 → J st → (6561 - (((a0 * 9 + a1) * 9 + a2) * 9 + a3)) * 10 + 3000 ≤ k →
    zcf J (P3 x0 x1 x2 x3 (fun a b d e => c (zlb n (x0, x1, x2, x3) (a, b, d, e)) ∧ c (noOf n (x0, x1, x2, x3) (a, b, d, e))) a0 a1 a2 a3) (impl_searcher_ask.l0 C k qq st n x0 x1 x2 x3 a0 a1 a2 a3) := by
  obtain ⟨n0, n3, g0, g1, g2, g3, s8, zb, zc, zd⟩ := id hx
  simp only at g0 g1 g2 g3 s8
  intro N
  induction N with
  | zero => intro k hk a0 a1 a2 a3 st h0 h1 h2 h3 h4 h5 h6 h7 hj hf; omega
  | succ N ih =>
    intro k hk a0 a1 a2 a3 st h0 h1 h2 h3 h4 h5 h6 h7 hj hf
    obtain ⟨k, rfl⟩ : ∃ m, k = m + 1 + 1 + 1 + 1 + 1 + 1 + 1 := ⟨k - 7, by omega⟩
    have ga : GA (x0, x1, x2, x3) (a0, a1, a2, a3) := ⟨⟨h0, h1⟩, ⟨h2, h3⟩, ⟨h4, h5⟩, ⟨h6, h7⟩⟩
    have hs := P3_step x0 x1 x2 x3 (fun a b d e => c (zlb n (x0, x1, x2, x3) (a, b, d, e)) ∧ c (noOf n (x0, x1, x2, x3) (a, b, d, e))) (a0 := a0) (a1 := a1) (a2 := a2) h7
    have go : ∀ s, J s → ¬ (c (zlb n (x0, x1, x2, x3) (a0, a1, a2, a3)) ∧ c (noOf n (x0, x1, x2, x3) (a0, a1, a2, a3))) → zcf J (P3 x0 x1 x2 x3 (fun a b d e => c (zlb n (x0, x1, x2, x3) (a, b, d, e)) ∧ c (noOf n (x0, x1, x2, x3) (a, b, d, e))) a0 a1 a2 a3) (impl_searcher_ask.j1 C (k + 1 + 1 + 1 + 1 + 1 + 1) qq false s n x0 x1 x2 x3 a0 a1 a2 a3) := by
      intro s js hn
      have hs' : P3 x0 x1 x2 x3 (fun a b d e => c (zlb n (x0, x1, x2, x3) (a, b, d, e)) ∧ c (noOf n (x0, x1, x2, x3) (a, b, d, e))) a0 a1 a2 a3 ↔ P3 x0 x1 x2 x3 (fun a b d e => c (zlb n (x0, x1, x2, x3) (a, b, d, e)) ∧ c (noOf n (x0, x1, x2, x3) (a, b, d, e))) a0 a1 a2 (a3 + 1) := hs.trans ⟨fun h => h.resolve_left hn, .inr⟩
      rw [impl_searcher_ask.j1, if_neg (by decide)]
      by_cases e3 : a3 = x3
      · rw [l1_eq3 _ e3]
        have p3 := hs'.trans (P3_end x0 x1 x2 x3 (fun a b d e => c (zlb n (x0, x1, x2, x3) (a, b, d, e)) ∧ c (noOf n (x0, x1, x2, x3) (a, b, d, e))) (a0 := a0) (a1 := a1) (a2 := a2) (a3 := a3 + 1) (by omega))
        by_cases e2 : a2 = x2
        · rw [l1_eq2 _ e2]
          have p2 := p3.trans (P2_end x0 x1 x2 x3 (fun a b d e => c (zlb n (x0, x1, x2, x3) (a, b, d, e)) ∧ c (noOf n (x0, x1, x2, x3) (a, b, d, e))) (a0 := a0) (a1 := a1) (a2 := a2 + 1) (by omega))
          by_cases e1 : a1 = x1
          · rw [l1_eq1 _ e1]
            have p1 := p2.trans (P1_end x0 x1 x2 x3 (fun a b d e => c (zlb n (x0, x1, x2, x3) (a, b, d, e)) ∧ c (noOf n (x0, x1, x2, x3) (a, b, d, e))) (a0 := a0) (a1 := a1 + 1) (by omega))
            by_cases e0 : a0 = x0
            · rw [l1_eq0 _ e0, l1_end]
              exact ⟨_, _, _, _, _, _, rfl, js, ⟨fun h => absurd h (by decide), fun h => absurd (p1.mp h) (P0_end _ _ _ _ _ (by omega))⟩⟩
            · rw [l1_ne0 _ e0 h0 (by omega)]
              exact (ih _ (by omega) (a0 + 1) 0 0 0 s (by omega) (by omega) (by omega) (by omega) (by omega) (by omega) (by omega) (by omega) js (by omega)).of (p1.trans ((zxd _ _ _ _ _ (by omega)).trans ((zjd _ _ _ _ _ (by omega)).trans (ztc _ _ _ _ _ (by omega)))))
          · rw [l1_ne1 _ e1 h2 (by omega)]
            exact (ih _ (by omega) a0 (a1 + 1) 0 0 s h0 h1 (by omega) (by omega) (by omega) (by omega) (by omega) (by omega) js (by omega)).of (p2.trans ((zjd _ _ _ _ _ (by omega)).trans (ztc _ _ _ _ _ (by omega))))
        · rw [l1_ne2 _ e2 h4 (by omega)]
          exact (ih _ (by omega) a0 a1 (a2 + 1) 0 s h0 h1 h2 h3 (by omega) (by omega) (by omega) (by omega) js (by omega)).of (p3.trans (ztc _ _ _ _ _ (by omega)))
      · rw [l1_ne3 _ e3 h6 (by omega)]
        exact (ih _ (by omega) a0 a1 a2 (a3 + 1) s h0 h1 h2 h3 h4 h5 (by omega) (by omega) js (by omega)).of hs'
    obtain ⟨b, st1, e1, j1, i1⟩ := HC st _ hj (zce hx ga)
    rw [impl_searcher_ask.l0, (zxe n x0 x1 x2 x3 a0 a1 a2 a3 hx ga (k + 1 + 1 + 1 + 1 + 1 + 1) (by omega)).2]
    simp only [Option.bind_some, znc]
    rw [e1]
    simp only [Option.bind_some]
    cases b with
    | true =>
      obtain ⟨b2, st2, e2, j2, i2⟩ := HC st1 _ j1 (zff hx ga)
      rw [if_pos rfl, e2]
      simp only [Option.bind_some]
      cases b2 with
      | true =>
        rw [impl_searcher_ask.j1, if_pos rfl]
        exact ⟨_, _, _, _, _, _, rfl, j2, ⟨fun _ => hs.mpr (.inl ⟨i1.mp rfl, i2.mp rfl⟩), fun _ => rfl⟩⟩
      | false => exact go st2 j2 (fun h => absurd (i2.mpr h.2) (by decide))
    | false =>
      rw [if_neg (by decide)]
      exact go st1 j1 (fun h => absurd (i1.mpr h.1) (by decide))
end
theorem len_le : ∀ (P : Nat) (L : List Int), L.Nodup → (∀ x ∈ L, 0 ≤ x ∧ x < (P : Int)) → L.length ≤ P := by
  intro P
  induction P with
  | zero =>
    intro L _ h
    cases L with
    | nil => exact Nat.le_refl _
    | cons x xs => have := h x List.mem_cons_self; omega
  | succ P ih =>
    intro L hn h
    by_cases hm : (P : Int) ∈ L
    · have h1 := ih (L.erase (P : Int)) (hn.erase _) (fun x hx => by
        have hx2 := (hn.mem_erase_iff).mp hx
        have := h x hx2.2
        have h3 := hx2.1
        omega)
      rw [List.length_erase_of_mem hm] at h1
      omega
    · have := ih L hn (fun x hx => by
        have h2 := h x hx
        have h3 : x ≠ (P : Int) := fun e => hm (e ▸ hx)
        omega)
      omega
def key (z : T4) (r : Nat) : K5 := (z.1, z.2.1, z.2.2.1, z.2.2.2, (r : Int))
theorem zef {y z : T4} {q r : Nat} (h : key y q = key z r) : y = z ∧ q = r := by
  obtain ⟨y0, y1, y2, y3⟩ := y
  obtain ⟨z0, z1, z2, z3⟩ := z
  unfold key at h
  simp only [Prod.mk.injEq] at h
  obtain ⟨rfl, rfl, rfl, rfl, h⟩ := h
  exact ⟨rfl, by omega⟩
theorem key_wf {n : Int} {z : T4} {r : Nat} (h : GS n z) (hr : r ≤ 20) : wfK (key z r) := by
  obtain ⟨n0, n3, a0, b0, c0, d0, s8, _⟩ := h
  unfold key wfK wf64
  refine ⟨⟨?_, ?_⟩, ⟨?_, ?_⟩, ⟨?_, ?_⟩, ⟨?_, ?_⟩, ⟨?_, ?_⟩⟩ <;> simp only <;> omega
theorem zre : ∀ {st : MS} {k : K5} {b : Bool}, kn st k = some b → ∃ e ∈ st, e.1 = k ∧ e.2 = b
  | [], _, _, h => by simp [kn] at h
  | e :: st, k, b, h => by
    unfold kn at h
    by_cases c : e.1 = k
    · rw [if_pos c] at h
      exact ⟨e, List.mem_cons_self, c, by injection h⟩
    · rw [if_neg c] at h
      obtain ⟨e', h1, h2⟩ := zre h
      exact ⟨e', List.mem_cons_of_mem _ h1, h2⟩
theorem kn_none : ∀ {st : MS} {k : K5}, kn st k = none → k ∉ st.map (fun e => e.1)
  | [], _, _ => by simp
  | e :: st, k, h => by
    unfold kn at h
    by_cases c : e.1 = k
    · rw [if_pos c] at h; exact absurd h (by simp)
    · rw [if_neg c] at h
      have := kn_none h
      rw [List.map_cons, List.mem_cons]
      intro hh
      rcases hh with hh | hh
      · exact c hh.symm
      · exact this hh
/-- What the map says is so. -/
def InvI (n : Int) (st : MS) : Prop := (∀ e ∈ st, ∃ (r : Nat) (z : T4), r ≤ 20 ∧ GS n z ∧ e.1 = key z r ∧ (e.2 = true ↔ CanP n r z)) ∧ (st.map (fun e => e.1)).Nodup
theorem zke {n : Int} {st : MS} (h : InvI n st) : st.length ≤ 137781 := by
  have num : ∀ e ∈ st, ∃ (r : Nat) (z : T4), r ≤ 20 ∧ GS n z ∧ e.1 = key z r := fun e he => by
    obtain ⟨r, z, h1, h2, h3, _⟩ := h.1 e he
    exact ⟨r, z, h1, h2, h3⟩
  have nm : ∀ (z : T4) (r : Nat), (((((key z r).1 * 9 + (key z r).2.1) * 9 + (key z r).2.2.1) * 9 + (key z r).2.2.2.1) * 21 + (key z r).2.2.2.2) = ix z r := fun _ _ => rfl
  have nd : (st.map (fun e => ((((e.1.1 * 9 + e.1.2.1) * 9 + e.1.2.2.1) * 9 + e.1.2.2.2.1) * 21 + e.1.2.2.2.2))).Nodup := by
    have h2 := h.2
    unfold List.Nodup at h2 ⊢
    rw [List.pairwise_map] at h2 ⊢
    refine List.Pairwise.imp_of_mem ?_ h2
    intro a b ha hb hne he
    obtain ⟨r, z, h1, g1, e1⟩ := num a ha
    obtain ⟨s, u, h3, g3, e3⟩ := num b hb
    rw [e1, e3, nm, nm] at he
    obtain ⟨rfl, rfl⟩ := ix_inj g1 g3 h1 h3 he
    exact hne (e1.trans e3.symm)
  have := len_le 137781 _ nd (fun x hx => by
    obtain ⟨e, he, rfl⟩ := List.mem_map.mp hx
    obtain ⟨r, z, h1, g1, e1⟩ := num e he
    have := zmd g1 h1
    rw [e1, nm]
    exact this)
  rw [List.length_map] at this
  exact this
theorem canI_spec (n : Int) : ∀ (q : Nat), q ≤ 20 → ∀ (m : Nat), q < m → ∀ (st : MS) (y : T4), InvI n st → GS n y →
    ∃ b st', canI m st n y.1 y.2.1 y.2.2.1 y.2.2.2 (q : Int) = some (b, st') ∧ (InvI n st' ∧ ∀ (r : Nat) z, q < r → r ≤ 20 → GS n z → kn st' (key z r) = kn st (key z r)) ∧ (b = true ↔ CanP n q y) := by
  intro q
  induction q with
  | zero =>
    intro _ m hm st y hI hy
    obtain ⟨m, rfl⟩ : ∃ j, m = j + 1 := ⟨m - 1, by omega⟩
    obtain ⟨y0, y1, y2, y3⟩ := y
    obtain ⟨k, hk⟩ : ∃ k, K0 = k + 1 := ⟨999999, rfl⟩
    obtain ⟨n0, n3, a0, b0, c0, d0, s8, _⟩ := id hy
    show ∃ b st', impl_searcher_can.f (canI m) K0 K0 st n y0 y1 y2 y3 ((0 : Nat) : Int) = some (b, st') ∧ _
    unfold impl_searcher_can.f impl_State_sum.f
    simp only [Option.bind_some]
    simp only at a0 b0 c0 d0 s8
    rw [zse y0 y1 y2 y3 ⟨a0, b0, c0, d0, by omega⟩]
    by_cases c1 : y0 + y1 + y2 + y3 ≤ 1
    · rw [if_pos c1]
      exact ⟨true, st, rfl, ⟨hI, fun _ _ _ _ _ => rfl⟩, ⟨fun _ => c1, fun _ => rfl⟩⟩
    · rw [if_neg c1, if_pos (by decide), hk]
      rw [impl_searcher_can.j0, if_pos rfl]
      exact ⟨false, st, rfl, ⟨hI, fun _ _ _ _ _ => rfl⟩, ⟨fun h => absurd h (by decide), fun h => absurd h c1⟩⟩
  | succ q ih =>
    intro hq m hm st y hI hy
    obtain ⟨m, rfl⟩ : ∃ j, m = j + 1 := ⟨m - 1, by omega⟩
    have ih' := ih (by omega) m (by omega)
    obtain ⟨y0, y1, y2, y3⟩ := y
    obtain ⟨k, hk, hk2⟩ : ∃ k, K0 = k + 1 ∧ 100000 ≤ k := ⟨999999, rfl, by omega⟩
    obtain ⟨n0, n3, a0, b0, c0, d0, s8, _⟩ := id hy
    show ∃ b st', impl_searcher_can.f (canI m) K0 K0 st n y0 y1 y2 y3 ((q + 1 : Nat) : Int) = some (b, st') ∧ _
    unfold impl_searcher_can.f impl_State_sum.f
    simp only [Option.bind_some]
    simp only at a0 b0 c0 d0 s8
    rw [zse y0 y1 y2 y3 ⟨a0, b0, c0, d0, by omega⟩]
    by_cases c1 : y0 + y1 + y2 + y3 ≤ 1
    · rw [if_pos c1]
      exact ⟨true, st, rfl, ⟨hI, fun _ _ _ _ _ => rfl⟩, ⟨fun _ => .inl c1, fun _ => rfl⟩⟩
    rw [if_neg c1, if_neg (by omega), zpd (gs_good hy) K0 (by rw [hk]; omega)]
    simp only [Option.bind_some]
    rw [if_pos (by omega)]
    by_cases c2 : zjc n ((q + 1 : Nat) : Int) y0 y1 y2 y3 > shl .i64 1 ((q + 1 : Nat) : Int)
    · rw [decide_eq_true c2, hk, impl_searcher_can.j0, if_pos rfl]
      refine ⟨false, st, rfl, ⟨hI, fun _ _ _ _ _ => rfl⟩, ⟨fun h => absurd h (by decide), fun h => ?_⟩⟩
      rcases h with h | h
      · exact absurd h c1
      · exact absurd c2 h.1
    obtain ⟨kk, hkk⟩ : ∃ kk, key (y0, y1, y2, y3) (q + 1) = kk := ⟨_, rfl⟩
    have e0 : impl_searcher_can.j0 (canI m) K0 K0 ((q + 1 : Nat) : Int) false st n y0 y1 y2 y3 = (if (kn st kk).isSome = true then (some ((kn st kk).getD false, st)) else ((impl_searcher_ask.f (canI m) K0 st n y0 y1 y2 y3 ((q + 1 : Nat) : Int)).bind fun bt => (if bt.2.2.2.2.2.length < 1000000 then (some (bt.2.2.2.2.1, (kk, bt.2.2.2.2.1) :: bt.2.2.2.2.2)) else (none)))) := by
      have e1 : ∀ k', impl_searcher_can.j0 (canI m) K0 (k' + 1) ((q + 1 : Nat) : Int) false st n y0 y1 y2 y3 = (if (kn st kk).isSome = true then (some ((kn st kk).getD false, st)) else ((impl_searcher_ask.f (canI m) K0 st n y0 y1 y2 y3 ((q + 1 : Nat) : Int)).bind fun bt => (if bt.2.2.2.2.2.length < 1000000 then (some (bt.2.2.2.2.1, (kk, bt.2.2.2.2.1) :: bt.2.2.2.2.2)) else (none)))) := fun k' => by
        have hw := key_wf hy hq
        rw [impl_searcher_can.j0, if_neg (by decide), show ((y0, y1, y2, y3, ((q + 1 : Nat) : Int)) : K5) = kk from hkk, if_pos (by rw [← hkk]; exact hw)]
      have := e1 k
      rw [← hk] at this
      exact this
    rw [decide_eq_false c2, e0]
    cases hkn : kn st kk with
    | some b =>
      rw [Option.isSome_some, if_pos rfl, Option.getD_some]
      refine ⟨b, st, rfl, ⟨hI, fun _ _ _ _ _ => rfl⟩, ?_⟩
      obtain ⟨e, he, h1, h2⟩ := zre hkn
      obtain ⟨r, z, hr, hz, h3, h4⟩ := hI.1 e he
      obtain ⟨rfl, rfl⟩ := zef (h3.symm.trans (h1.trans hkk.symm))
      rw [← h2]; exact h4
    | none =>
      rw [Option.isSome_none, if_neg (by decide)]
      have wq : wrap64 (((q + 1 : Nat) : Int) - 1) = (q : Int) := by unfold wrap64; omega
      have hg := id hy
      obtain ⟨r0, r1, r2, r3, b, st2, ef, ⟨j2, f2⟩, ib⟩ := ask_all (C := canI m) (n := n) (qq := ((q + 1 : Nat) : Int)) (J := fun s => InvI n s ∧ ∀ (r : Nat) z, q < r → r ≤ 20 → GS n z → kn s (key z r) = kn st (key z r)) (c := CanP n q) hy (by
        intro s z hs hz
        rw [wq]
        obtain ⟨b, s', e, ⟨g1, g2⟩, g3⟩ := ih' s z hs.1 hz
        exact ⟨b, s', e, ⟨g1, fun r u h1 h2 h3 => (g2 r u h1 h2 h3).trans (hs.2 r u h1 h2 h3)⟩, g3⟩) K0 K0 (Nat.le_refl _) 0 0 0 0 st (by decide) a0 (by decide) b0 (by decide) c0 (by decide) d0 ⟨hI, fun _ _ _ _ _ => rfl⟩ (by rw [hk]; omega)
      have ef' : impl_searcher_ask.f (canI m) K0 st n y0 y1 y2 y3 ((q + 1 : Nat) : Int) = some (r0, r1, r2, r3, b, st2) := ef
      have p00 : P0 y0 y1 y2 y3 (fun a b d e => CanP n q (zlb n (y0, y1, y2, y3) (a, b, d, e)) ∧ CanP n q (noOf n (y0, y1, y2, y3) (a, b, d, e))) 0 ↔ P3 y0 y1 y2 y3 (fun a b d e => CanP n q (zlb n (y0, y1, y2, y3) (a, b, d, e)) ∧ CanP n q (noOf n (y0, y1, y2, y3) (a, b, d, e))) 0 0 0 0 :=
        (zxd _ _ _ _ _ a0).trans ((zjd _ _ _ _ _ b0).trans (ztc _ _ _ _ _ c0))
      have can : b = true ↔ CanP n (q + 1) (y0, y1, y2, y3) := by
        refine ib.trans (p00.symm.trans ⟨fun h => .inr ⟨c2, h⟩, fun h => ?_⟩)
        rcases h with h | h
        · exact absurd h c1
        · exact h.2
      have l2 := zke j2
      have kn2 : kn st2 kk = none := by
        have := f2 (q + 1) (y0, y1, y2, y3) (by omega) hq hy
        rw [hkk, hkn] at this
        exact this
      rw [ef']
      simp only [Option.bind_some]
      rw [if_pos (by omega)]
      refine ⟨b, _, rfl, ⟨⟨fun e he => ?_, ?_⟩, fun r z h1 h2 h3 => ?_⟩, can⟩
      · rcases List.mem_cons.mp he with h | h
        · subst h; exact ⟨q + 1, (y0, y1, y2, y3), hq, hy, hkk.symm, can⟩
        · exact j2.1 e h
      · rw [List.map_cons, List.nodup_cons]
        exact ⟨kn_none kn2, j2.2⟩
      · have hne : ¬ kk = key z r := fun h => by
          obtain ⟨_, h4⟩ := zef (hkk.trans h)
          omega
        show (if kk = key z r then some b else kn st2 (key z r)) = _
        rw [if_neg hne]
        exact f2 r z (by omega) h2 h3

end Go.Proofs.Ytgcbhknpfpgffaa.C
