/- The reference counts the ways from the first weight on: the same number. -/
import Derived.Test.YthhihmhcfodjiaaLBalR
import Derived.Test.YthhihmhcfodjiaaLRBaseR
import Derived.Test.YthhihmhcfodjiaaLRFewR
import Derived.Test.YthhihmhcfodjiaaRx15
namespace Go.Proofs.Ythhihmhcfodjiaa.R
open Go.RowKit Go.Proofs.YthhihmhcfodjiaaW.PrintWords Go.Proofs.YthhihmhcfodjiaaW.PrintLast Go.Proofs.YthhihmhcfodjiaaW.PrintMore
set_option linter.unusedVariables false
set_option linter.unusedSimpArgs false

theorem ways_swap (b : Bool) (x y : Int) (l : List Int) (m : Int) : ways b (x :: y :: l) m = ways b (y :: x :: l) m := by
  have e1 : m - x - y = m - y - x := by omega
  have e2 : m - x + y = m + y - x := by omega
  have e3 : m + x - y = m - y + x := by omega
  have e4 : m + x + y = m + y + x := by omega
  simp only [ways, e1, e2, e3, e4]
  cases b
  · simp only [Bool.false_eq_true, if_false]; omega
  · simp only [if_true]; omega
theorem ways_perm (b : Bool) {l l' : List Int} (h : l.Perm l') : ∀ m, ways b l m = ways b l' m := by
  induction h with
  | nil => intro m; rfl
  | cons x _ ih => intro m; simp only [ways, ih]
  | swap x y l => intro m; exact ways_swap b y x l m
  | trans _ _ ih1 ih2 => intro m; rw [ih1, ih2]
def prog (b : Bool) (W : Int → Nat) (m wi s : Int) : Nat := (if -1 < s ∧ b = true then W (m + wi) else 0) + (if 0 < s then W m else 0) + (if 1 < s then W (m - wi) else 0)
theorem prog_start (b : Bool) (W : Int → Nat) (m wi : Int) : prog b W m wi (lo b) = 0 := by
  unfold prog lo
  cases b <;> simp
theorem prog_step (b : Bool) (W : Int → Nat) (m wi s : Int) (h : s = -1 ∨ s = 0 ∨ s = 1) (hlo : lo b ≤ s) : prog b W m wi (s + 1) = prog b W m wi s + W (m - s * wi) := by
  unfold prog
  rcases h with rfl | rfl | rfl
  · have hb : b = true := by
      cases b
      · simp [lo] at hlo
      · rfl
    subst hb
    rw [show m - -1 * wi = m + wi by omega]
    simp
  · rw [Int.zero_mul, Int.sub_zero]
    simp
  · rw [Int.one_mul]
    simp
theorem prog_end (b : Bool) (l : List Int) (m wi : Int) : prog b (ways b l) m wi 2 = ways b (wi :: l) m := by
  have e : ways b (wi :: l) m = ways b l m + ways b l (m - wi) + (if b = true then ways b l (m + wi) else 0) := rfl
  rw [e]
  unfold prog
  cases b <;> simp <;> omega
theorem prog_le (b : Bool) (W : Int → Nat) (m wi s : Int) (M : Nat) (h : ∀ y, W y ≤ M) : prog b W m wi s ≤ 3 * M := by
  have h1 := h m
  have h2 := h (m - wi)
  have h3 := h (m + wi)
  unfold prog
  split <;> split <;> split <;> omega
theorem w2_gen {k : Nat} {l : List Int} {a : Int} {b : Bool} {x10 x12 : List Int} {i : Nat} {c s fr m s1 : Int} (hs : s ≤ 1) (hi : i < l.length) (hfr : wrap64 (c - wrap64 (s * wrap64 (rd l (i : Int)))) = fr) (hm : wrap64 (m - 1) = 4000) (hs1 : wrap64 (s + 1) = s1) :
    spec_WaysToWeigh.l2 (k + 1) l a b m x10 (i : Int) x12 c s = (some (decide (0 ≤ fr ∧ fr ≤ 4000))).bind fun t303 => (if t303 = true then (if 0 ≤ c then (if c < (x12.length : Int) then (if 0 ≤ fr then (if fr < (x10.length : Int) then (spec_WaysToWeigh.l2 k l a b m x10 (i : Int) (x12.set (c : Int).toNat (wrap64 ((rd x12 c) + (rd x10 fr)))) c s1) else (none)) else (none)) else (none)) else (none)) else (spec_WaysToWeigh.l2 k l a b m x10 (i : Int) x12 c s1)) := by
  have g1 : (0 : Int) ≤ (i : Int) := Int.natCast_nonneg i
  have g2 : (i : Int) < (l.length : Int) := Int.ofNat_lt.mpr hi
  conv => lhs; unfold spec_WaysToWeigh.l2
  simp only [hs, g1, g2, if_true, hfr, hm, hs1, l00In_eq]
theorem w2_in {k : Nat} {l : List Int} {a : Int} {b : Bool} {x10 x12 : List Int} {i c : Nat} {s fr m s1 n : Int} (hs : s ≤ 1) (hi : i < l.length) (hfr : wrap64 ((c : Int) - wrap64 (s * wrap64 (rd l (i : Int)))) = fr) (hm : wrap64 (m - 1) = 4000) (hs1 : wrap64 (s + 1) = s1)
    (ha : 0 ≤ fr ∧ fr ≤ 4000) (h1 : (c : Int) < (x12.length : Int)) (h2 : fr < (x10.length : Int)) (hn : wrap64 (rd x12 (c : Int) + rd x10 fr) = n) :
    spec_WaysToWeigh.l2 (k + 1) l a b m x10 (i : Int) x12 (c : Int) s = spec_WaysToWeigh.l2 k l a b m x10 (i : Int) (x12.set c n) (c : Int) s1 := by
  have g1 : (0 : Int) ≤ (c : Int) := Int.natCast_nonneg c
  rw [w2_gen hs hi hfr hm hs1, decide_eq_true ha]
  simp only [Option.bind_some, if_true, h1, h2, ha.1, g1, hn, Int.toNat_natCast]
theorem w2_out {k : Nat} {l : List Int} {a : Int} {b : Bool} {x10 x12 : List Int} {i c : Nat} {s fr m s1 : Int} (hs : s ≤ 1) (hi : i < l.length) (hfr : wrap64 ((c : Int) - wrap64 (s * wrap64 (rd l (i : Int)))) = fr) (hm : wrap64 (m - 1) = 4000) (hs1 : wrap64 (s + 1) = s1)
    (ha : ¬ (0 ≤ fr ∧ fr ≤ 4000)) : spec_WaysToWeigh.l2 (k + 1) l a b m x10 (i : Int) x12 (c : Int) s = spec_WaysToWeigh.l2 k l a b m x10 (i : Int) x12 (c : Int) s1 := by
  rw [w2_gen hs hi hfr hm hs1, decide_eq_false ha]
  simp only [Option.bind_some, Bool.false_eq_true, if_false]
/-- The counts for the weights R. -/
def Tab (b : Bool) (R : List Int) (row : List Int) : Prop := row.length = 4001 ∧ ∀ c : Nat, c < 4001 → rd row (c : Int) = (ways b R ((c : Int) - 2000) : Int)
section
variable {l R : List Int} {a : Int} {b : Bool} {x10 : List Int} {V : Int × Int}
theorem way_l2 (ho : Okay l) {i c N : Nat} (hi : i < l.length) (hc : c < 4001) (hR : ∀ x ∈ R, 1 ≤ x) (hRs : R.sum ≤ 2000) (hRl : R.length ≤ 16) (hT : Tab b R x10)
    (Hc : ∀ x12 : List Int, x12.length = 4001 → (∀ q : Nat, q < c + 1 → rd x12 (q : Int) = (ways b (rd l (i : Int) :: R) ((q : Int) - 2000) : Int)) → (∀ q : Nat, c + 1 ≤ q → q < 4001 → rd x12 (q : Int) = 0) → ∀ k, N < k → spec_WaysToWeigh.l1 k l a b 4001 x10 (i : Int) x12 ((c : Int) + 1) = some V) :
    ∀ (d : Nat) (s : Int), s + d = 2 → lo b ≤ s → ∀ x12 : List Int, x12.length = 4001 → (∀ q : Nat, q < c → rd x12 (q : Int) = (ways b (rd l (i : Int) :: R) ((q : Int) - 2000) : Int)) → (∀ q : Nat, c + 1 ≤ q → q < 4001 → rd x12 (q : Int) = 0) → rd x12 (c : Int) = (prog b (ways b R) ((c : Int) - 2000) (rd l (i : Int)) s : Int) →
    ∀ k, N + d + 1 < k → spec_WaysToWeigh.l2 k l a b 4001 x10 (i : Int) x12 (c : Int) s = some V := by
  intro d
  induction d with
  | zero =>
    intro s hs hlo x12 h1 h2 h3 h4 k hk
    obtain rfl : s = 2 := by omega
    obtain ⟨k, rfl⟩ : ∃ m, k = m + 1 := ⟨k - 1, by omega⟩
    simp only [spec_WaysToWeigh.l2]
    rw [if_neg (by omega), wrap_of (n := (c : Int) + 1) (by omega) (by omega)]
    refine Hc x12 h1 (fun q hq => ?_) h3 k (by omega)
    by_cases e1 : q = c
    · subst e1; rw [h4, prog_end]
    · exact h2 q (by omega)
  | succ d ih =>
    intro s hs hlo x12 h1 h2 h3 h4 k hk
    obtain ⟨k, rfl⟩ : ∃ m, k = m + 1 := ⟨k - 1, by omega⟩
    have hsc : s = -1 ∨ s = 0 ∨ s = 1 := by unfold lo at hlo; split at hlo <;> omega
    have hs1 : s ≤ 1 := by omega
    have hwi := okay_rd ho i hi
    obtain ⟨m1, m2, m3, m4⟩ := mul_in hsc hwi
    obtain ⟨fr, hfr⟩ : ∃ fr, fr = (c : Int) - s * rd l (i : Int) := ⟨_, rfl⟩
    have hfw : (c : Int) - 2000 - s * rd l (i : Int) = fr - 2000 := by omega
    have E3 : Aside0 (wrap64 ((c : Int) - wrap64 (s * wrap64 (rd l (i : Int)))) = fr) := ⟨by
      rw [wrap_of (n := rd l (i : Int)) (by omega) (by omega), wrap_of (n := s * rd l (i : Int)) (by omega) (by omega), ← hfr]
      exact wrap_of (by omega) (by omega)⟩
    have E4 : Aside0 (wrap64 (4001 - 1) = 4000) := ⟨wrap_of (by omega) (by omega)⟩
    have E6 : Aside0 (wrap64 (s + 1) = s + 1) := ⟨wrap_of (by omega) (by omega)⟩
    have hp := prog_step b (ways b R) ((c : Int) - 2000) (rd l (i : Int)) s hsc hlo
    rw [hfw] at hp
    have hM : ∀ y, ways b R y ≤ 43046721 := fun y => Nat.le_trans (ways_le b R y) (Nat.le_trans (Nat.pow_le_pow_right (by decide) hRl) (by decide))
    have hpl := prog_le b (ways b R) ((c : Int) - 2000) (rd l (i : Int)) s 43046721 hM
    have hM1 := hM (fr - 2000)
    clear hM
    by_cases ha : 0 ≤ fr ∧ fr ≤ 4000
    · obtain ⟨q, hq⟩ : ∃ q : Nat, fr = (q : Int) := ⟨fr.toNat, by omega⟩
      have u := hT.2 q (by omega)
      rw [← hq] at u
      have hl := hT.1
      have i1 : (c : Int) < (x12.length : Int) := by omega
      have i2 : fr < (x10.length : Int) := by omega
      have E8 : Aside0 (wrap64 (rd x12 (c : Int) + rd x10 fr) = (prog b (ways b R) ((c : Int) - 2000) (rd l (i : Int)) (s + 1) : Int)) := ⟨by rw [h4, u, hp]; rw [wrap_of (by omega) (by omega)]; omega⟩
      rw [w2_in hs1 hi E3.out E4.out E6.out ha i1 i2 E8.out]
      refine ih (s + 1) (by omega) (by omega) _ (by rw [List.length_set]; exact h1) (fun q hq => ?_) (fun q hq hq2 => ?_) ?_ k (by omega)
      · rw [rd_set_other _ (by omega)]; exact h2 q hq
      · rw [rd_set_other _ (by omega)]; exact h3 q hq hq2
      · rw [rd_set_self _ (by omega)]
    · have hz : ways b R (fr - 2000) = 0 := by
        by_cases z : ways b R (fr - 2000) = 0
        · exact z
        · have w1 := ways_far b R (fr - 2000) hR z
          omega
      rw [w2_out hs1 hi E3.out E4.out E6.out ha]
      refine ih (s + 1) (by omega) (by omega) x12 h1 h2 h3 ?_ k (by omega)
      rw [h4, hp, hz, Nat.add_zero]
theorem w1_in {k : Nat} {m : Int} {i c : Int} {x12 : List Int} (h : c < m) : spec_WaysToWeigh.l1 (k + 1) l a b m x10 i x12 c = spec_WaysToWeigh.l2 k l a b m x10 i x12 c (lo b) := by
  conv => lhs; unfold spec_WaysToWeigh.l1
  rw [if_pos h, show spec_l01Least.f b = some (lo b) by unfold spec_l01Least.f lo; cases b <;> rfl, Option.bind_some]
theorem w1_out {k : Nat} {m : Int} {i c i1 : Int} {x12 : List Int} (h : ¬ c < m) (hi : wrap64 (i + 1) = i1) : spec_WaysToWeigh.l1 (k + 1) l a b m x10 i x12 c = spec_WaysToWeigh.l0 k l a b m x12 i1 := by
  conv => lhs; unfold spec_WaysToWeigh.l1
  rw [if_neg h, hi]
theorem way_l1 (ho : Okay l) {i N : Nat} (hi : i < l.length) (hR : ∀ x ∈ R, 1 ≤ x) (hRs : R.sum ≤ 2000) (hRl : R.length ≤ 16) (hT : Tab b R x10)
    (Hc : ∀ x12 : List Int, Tab b (rd l (i : Int) :: R) x12 → ∀ k, N < k → spec_WaysToWeigh.l0 k l a b 4001 x12 ((i : Int) + 1) = some V) :
    ∀ (d c : Nat), c + d = 4001 → ∀ x12 : List Int, x12.length = 4001 → (∀ q : Nat, q < c → rd x12 (q : Int) = (ways b (rd l (i : Int) :: R) ((q : Int) - 2000) : Int)) → (∀ q : Nat, c ≤ q → q < 4001 → rd x12 (q : Int) = 0) →
    ∀ k, N + 6 * d + 1 < k → spec_WaysToWeigh.l1 k l a b 4001 x10 (i : Int) x12 (c : Int) = some V := by
  intro d
  induction d with
  | zero =>
    intro c hcd x12 h1 h2 h3 k hk
    obtain rfl : c = 4001 := by omega
    obtain ⟨k, rfl⟩ : ∃ m, k = m + 1 := ⟨k - 1, by omega⟩
    have hl16 := ho.2.1
    rw [w1_out (by omega) (wrap_of (by omega) (by omega))]
    exact Hc x12 ⟨h1, h2⟩ k (by omega)
  | succ d ih =>
    intro c hcd x12 h1 h2 h3 k hk
    obtain ⟨k, rfl⟩ : ∃ m, k = m + 1 := ⟨k - 1, by omega⟩
    have hlo : lo b ≤ 1 ∧ -1 ≤ lo b := by unfold lo; split <;> omega
    obtain ⟨t, ht⟩ : ∃ t : Nat, lo b + t = 2 := ⟨(2 - lo b).toNat, by omega⟩
    rw [w1_in (by omega)]
    refine way_l2 ho hi (show c < 4001 by omega) hR hRs hRl hT (N := N + 6 * d + 1) (fun x12' g1 g2 g3 k hk => ?_) t (lo b) ht (by omega) x12 h1 h2 (fun q hq hq2 => h3 q (by omega) hq2) (by rw [h3 c (Nat.le_refl _) (by omega), prog_start]; rfl) k (by omega)
    have := ih (c + 1) (by omega) x12' g1 g2 g3 k hk
    rw [show ((c + 1 : Nat) : Int) = (c : Int) + 1 by omega] at this
    exact this
theorem w0_in {k i : Nat} (hi : i < l.length) : spec_WaysToWeigh.l0 (k + 1) l a b 4001 x10 (i : Int) = spec_WaysToWeigh.l1 k l a b 4001 x10 (i : Int) (List.replicate 4001 0) 0 := by
  have g2 : (i : Int) < (l.length : Int) := Int.ofNat_lt.mpr hi
  have g4 : (0 : Int) ≤ 4001 := by decide
  have g5 : (4001 : Int).toNat ≤ 35184372088832 := by decide
  have g6 : (4001 : Int).toNat = 4001 := rfl
  conv => lhs; unfold spec_WaysToWeigh.l0
  rw [if_pos g2, if_pos g4, if_pos g5, g6]
theorem w0_out {k : Nat} {m i q : Int} (hi : ¬ i < (l.length : Int)) (hq : wrap64 (2000 + a) = q) (h0 : 0 ≤ q) (h1 : q < (x10.length : Int)) : spec_WaysToWeigh.l0 (k + 1) l a b m x10 i = some (rd x10 q, 0) := by
  conv => lhs; unfold spec_WaysToWeigh.l0
  rw [if_neg hi, hq, if_pos h0, if_pos h1]
end
theorem way_l0 {l : List Int} (ho : Okay l) (a : Int) (b : Bool) (ha : 0 ≤ a ∧ a ≤ 2000) : ∀ (d i : Nat), i + d = l.length → ∀ (R x10 : List Int), Tab b R x10 → (∀ x ∈ R, 1 ≤ x) → R.sum + (l.drop i).sum = l.sum → R.length = i → R.Perm (l.take i) →
    ∀ k, 25000 * d + 10 < k → spec_WaysToWeigh.l0 k l a b 4001 x10 (i : Int) = some ((ways b l a : Int), 0) := by
  intro d
  induction d with
  | zero =>
    intro i hid R x10 hT hR hs hl hp k hk
    obtain rfl : i = l.length := by omega
    obtain ⟨k, rfl⟩ : ∃ m, k = m + 1 := ⟨k - 1, by omega⟩
    obtain ⟨q, hq⟩ : ∃ q : Nat, (q : Int) = 2000 + a := ⟨(2000 + a).toNat, by omega⟩
    have u := hT.2 q (by omega)
    rw [show (q : Int) - 2000 = a by omega] at u
    rw [List.take_length] at hp
    have hx := hT.1
    rw [w0_out (by omega) (show wrap64 (2000 + a) = (q : Int) by rw [hq]; exact wrap_of (by omega) (by omega)) (by omega) (by omega), u, ways_perm b hp]
  | succ d ih =>
    intro i hid R x10 hT hR hs hl hp k hk
    obtain ⟨k, rfl⟩ : ∃ m, k = m + 1 := ⟨k - 1, by omega⟩
    have hl16 := ho.2.1
    have hwi := okay_rd ho i (by omega)
    have hd := drop_rd l i (by omega)
    have hg : (0 : Int) ≤ (l.drop i).sum := by
      have := sum_ge (l.drop i) (fun x hx => ho.2.2.1 x (List.mem_of_mem_drop hx))
      omega
    have ho4 := ho.2.2.2
    rw [w0_in (by omega)]
    refine way_l1 ho (show i < l.length by omega) hR (by omega) (by omega) hT (N := 25000 * d + 10) (fun x12 hx k hk => ?_) 4001 0 (by omega) (List.replicate 4001 0) (List.length_replicate ..) (fun q hq => absurd hq (by omega)) (fun q _ hq => rd_rep hq) k (by omega)
    have := ih (i + 1) (by omega) (rd l (i : Int) :: R) x12 hx (fun x hx => by
      rcases List.mem_cons.1 hx with rfl | hx
      · exact hwi.1
      · exact hR x hx) (by rw [List.sum_cons, ← hs, hd, List.sum_cons]; omega) (by rw [List.length_cons, hl]) (by
      rw [take_rd l i (by omega)]
      exact (List.Perm.cons _ hp).trans (List.perm_append_singleton _ _).symm) k (by omega)
    rw [show ((i + 1 : Nat) : Int) = (i : Int) + 1 by omega] at this
    exact this
theorem way_f {xs : List Int} {a : Int} {b : Bool} (ho : Okay xs) (ha : 0 ≤ a ∧ a ≤ 2000) (k : Nat) (hk : 500000 < k) (hc : spec_l01Asked.f k xs a = some 0) : spec_WaysToWeigh.f k xs a b = some ((ways b xs a : Int), 0) := by
  have hl16 := ho.2.1
  have h1 : ((List.replicate 4001 0 : List Int).set 2000 1).length = 4001 := by rw [List.length_set, List.length_replicate]
  have g4 : (2000 : Int) < ((List.replicate 4001 0 : List Int).length : Int) := by rw [List.length_replicate]; decide
  have g6 : (2000 : Int).toNat = 2000 := rfl
  unfold spec_WaysToWeigh.f
  rw [hc, Option.bind_some, if_pos rfl, Option.bind_some, if_pos g4, g6]
  refine way_l0 ho a b ha xs.length 0 (by omega) [] _ ⟨h1, fun c hc => ?_⟩ (fun x hx => absurd hx (by simp)) (by simp) rfl (by simp) k (by omega)
  by_cases e : c = 2000
  · subst e
    rw [rd_set_self _ (by rw [List.length_replicate]; omega)]
    rfl
  · rw [rd_set_other _ e, rd_rep hc]
    unfold ways
    rw [if_neg (by omega)]
    rfl

end Go.Proofs.Ythhihmhcfodjiaa.R
