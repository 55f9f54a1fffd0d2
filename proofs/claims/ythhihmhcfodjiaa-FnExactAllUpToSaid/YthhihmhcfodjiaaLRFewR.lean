/- The reference's table: an entry is no -1 just if the weights from there on balance the mass. -/
import Derived.Test.YthhihmhcfodjiaaLRBaseR
import Derived.Test.YthhihmhcfodjiaaRx4
namespace Go.Proofs.Ythhihmhcfodjiaa.R
open Go.RowKit Go.Proofs.YthhihmhcfodjiaaW.PrintWords Go.Proofs.YthhihmhcfodjiaaW.PrintLast Go.Proofs.YthhihmhcfodjiaaW.PrintMore
set_option linter.unusedVariables false
set_option linter.unusedSimpArgs false

theorem rdL_self {T : List (List Int)} {i : Nat} (row : List Int) (h : i < T.length) : rd_L2 (T.set i row) (i : Int) = row := by
  unfold rd_L2; rw [Int.toNat_natCast, List.getD_eq_getElem?_getD, List.getElem?_set_self h]; rfl
theorem rdL_other {T : List (List Int)} {i r : Nat} (row : List Int) (h : r ≠ i) : rd_L2 (T.set i row) (r : Int) = rd_L2 T (r : Int) := by
  unfold rd_L2; rw [Int.toNat_natCast, List.getD_eq_getElem?_getD, List.getElem?_set_ne (Ne.symm h), List.getD_eq_getElem?_getD]
theorem rd_set_self {row : List Int} {c : Nat} (v : Int) (h : c < row.length) : rd (row.set c v) (c : Int) = v := by
  unfold rd; rw [Int.toNat_natCast, List.getD_eq_getElem?_getD, List.getElem?_set_self h]; rfl
theorem rd_set_other {row : List Int} {c d : Nat} (v : Int) (h : d ≠ c) : rd (row.set c v) (d : Int) = rd row (d : Int) := by
  unfold rd; rw [Int.toNat_natCast, List.getD_eq_getElem?_getD, List.getElem?_set_ne (Ne.symm h), List.getD_eq_getElem?_getD]
theorem rd_rep {n c : Nat} {v : Int} (h : c < n) : rd (List.replicate n v) (c : Int) = v := by
  unfold rd; rw [Int.toNat_natCast, List.getD_eq_getElem?_getD, List.getElem?_replicate, if_pos h]; rfl
def Fin_ (l : List Int) (b : Bool) (r d : Nat) (v : Int) : Prop := -1 ≤ v ∧ v ≤ (l.length : Int) - r ∧ (0 ≤ v ↔ ways b (l.drop r) ((d : Int) - 2000) ≠ 0)
def Rowd (l : List Int) (b : Bool) (r : Nat) (row : List Int) : Prop := row.length = 4001 ∧ ∀ c : Nat, c < 4001 → Fin_ l b r c (rd row (c : Int))
def Blank (row : List Int) : Prop := row.length = 4001 ∧ ∀ c : Nat, c < 4001 → rd row (c : Int) = -1
def Oth (l : List Int) (b : Bool) (T : List (List Int)) (e c : Nat) : Prop := T.length = l.length + 1 ∧ (∀ r : Nat, e < r → r ≤ l.length → Rowd l b r (rd_L2 T (r : Int))) ∧ (rd_L2 T (e : Int)).length = 4001 ∧
  (∀ d : Nat, d < c → Fin_ l b e d (rd (rd_L2 T (e : Int)) (d : Int))) ∧ (∀ d : Nat, c < d → d < 4001 → rd (rd_L2 T (e : Int)) (d : Int) = -1) ∧ (∀ r : Nat, r < e → Blank (rd_L2 T (r : Int)))
theorem oth_set {l : List Int} {b : Bool} {T : List (List Int)} {e c : Nat} (h : Oth l b T e c) (hc : c < 4001) (he : e ≤ l.length) (v : Int) : Oth l b (T.set e ((rd_L2 T (e : Int)).set c v)) e c ∧ rd (rd_L2 (T.set e ((rd_L2 T (e : Int)).set c v)) (e : Int)) (c : Int) = v := by
  obtain ⟨h1, h2, h3, h4, h5, h6⟩ := h
  have e1 := rdL_self (T := T) (i := e) ((rd_L2 T (e : Int)).set c v) (by omega)
  refine ⟨⟨by rw [List.length_set]; exact h1, fun r hr hr2 => ?_, ?_, fun d hd => ?_, fun d hd hd2 => ?_, fun r hr => ?_⟩, ?_⟩
  · rw [rdL_other _ (by omega)]; exact h2 r hr hr2
  · rw [e1, List.length_set]; exact h3
  · rw [e1, rd_set_other _ (by omega)]; exact h4 d hd
  · rw [e1, rd_set_other _ (by omega)]; exact h5 d hd hd2
  · rw [rdL_other _ (by omega)]; exact h6 r hr
  · rw [e1, rd_set_self _ (by omega)]
def lo (b : Bool) : Int := if b = true then -1 else 0
def Part_ (l : List Int) (b : Bool) (e c : Nat) (s v : Int) : Prop := -1 ≤ v ∧ v ≤ (l.length : Int) - e ∧ (0 ≤ v ↔ ∃ q : Int, lo b ≤ q ∧ q < s ∧ ways b (l.drop (e + 1)) ((c : Int) - 2000 - q * rd l (e : Int)) ≠ 0)
theorem part_start {l : List Int} {b : Bool} {e c : Nat} (he : e < l.length) : Part_ l b e c (lo b) (-1) := by
  refine ⟨by omega, by omega, ⟨fun h => by omega, ?_⟩⟩
  rintro ⟨q, h1, h2, _⟩
  omega
theorem part_end {l : List Int} {b : Bool} {e c : Nat} {v : Int} (he : e < l.length) (h : Part_ l b e c 2 v) : Fin_ l b e c v := by
  obtain ⟨h1, h2, h3⟩ := h
  refine ⟨h1, h2, h3.trans ?_⟩
  rw [drop_rd l e he]
  generalize rd l (e : Int) = wi
  generalize l.drop (e + 1) = L
  generalize (c : Int) - 2000 = m
  constructor
  · rintro ⟨q, q1, q2, q3⟩
    unfold ways
    cases b
    · rcases (show q = 0 ∨ q = 1 by simp [lo] at q1; omega) with rfl | rfl
      · rw [Int.zero_mul, Int.sub_zero] at q3; omega
      · rw [Int.one_mul] at q3; omega
    · rcases (show q = -1 ∨ q = 0 ∨ q = 1 by simp [lo] at q1; omega) with rfl | rfl | rfl
      · rw [show m - -1 * wi = m + wi by omega] at q3; rw [if_pos rfl]; omega
      · rw [Int.zero_mul, Int.sub_zero] at q3; omega
      · rw [Int.one_mul] at q3; omega
  · intro h
    by_cases a : ways b L m = 0
    · by_cases a2 : ways b L (m - wi) = 0
      · unfold ways at h
        rw [a, a2] at h
        cases b
        · simp at h
        · rw [if_pos rfl] at h
          exact ⟨-1, by simp [lo], by omega, by rw [show m - -1 * wi = m + wi by omega]; omega⟩
      · exact ⟨1, by unfold lo; split <;> omega, by omega, by rw [Int.one_mul]; exact a2⟩
    · exact ⟨0, by unfold lo; split <;> omega, by omega, by rw [Int.zero_mul, Int.sub_zero]; exact a⟩
theorem part_skip {l : List Int} {b : Bool} {e c : Nat} {s v : Int} (h : Part_ l b e c s v) (hz : ways b (l.drop (e + 1)) ((c : Int) - 2000 - s * rd l (e : Int)) = 0) : Part_ l b e c (s + 1) v := by
  obtain ⟨h1, h2, h3⟩ := h
  refine ⟨h1, h2, h3.trans ⟨?_, ?_⟩⟩
  · rintro ⟨q, q1, q2, q3⟩
    exact ⟨q, q1, by omega, q3⟩
  · rintro ⟨q, q1, q2, q3⟩
    by_cases e1 : q = s
    · subst e1; exact absurd hz q3
    · exact ⟨q, q1, by omega, q3⟩
theorem part_hit {l : List Int} {b : Bool} {e c : Nat} {s v : Int} (hs : lo b ≤ s) (h0 : 0 ≤ v) (h2 : v ≤ (l.length : Int) - e) (hz : ways b (l.drop (e + 1)) ((c : Int) - 2000 - s * rd l (e : Int)) ≠ 0) : Part_ l b e c (s + 1) v :=
  ⟨by omega, h2, ⟨fun _ => ⟨s, hs, by omega, hz⟩, fun _ => h0⟩⟩
theorem mul_in {s wi : Int} (hs : s = -1 ∨ s = 0 ∨ s = 1) (hw : 1 ≤ wi ∧ wi ≤ 2000) : -2000 ≤ s * wi ∧ s * wi ≤ 2000 ∧ 0 ≤ s * s ∧ s * s ≤ 1 := by
  rcases hs with rfl | rfl | rfl
  · exact ⟨by omega, by omega, by decide, by decide⟩
  · exact ⟨by omega, by omega, by decide, by decide⟩
  · exact ⟨by omega, by omega, by decide, by decide⟩
theorem wrap_of {n : Int} (h : -9223372036854775808 ≤ n) (h2 : n ≤ 9223372036854775807) : wrap64 n = n := by unfold wrap64; omega
theorem l00In_eq (a x y : Int) : spec_l00In.f a x y = some (decide (x ≤ a ∧ a ≤ y)) := by
  unfold spec_l00In.f
  by_cases h : a ≥ x
  · rw [if_pos h]
    by_cases h2 : a ≤ y
    · rw [decide_eq_true h2, decide_eq_true (And.intro h h2)]
    · rw [decide_eq_false h2, decide_eq_false (fun hh => h2 hh.2)]
  · rw [if_neg h, decide_eq_false (fun hh => h hh.1)]
theorem l4_gen {k : Nat} {l : List Int} {b : Bool} {T : List (List Int)} {e : Nat} {c s fr e1 m : Int} (hs : s ≤ 1) (he : e < l.length) (hfr : wrap64 (c - wrap64 (s * wrap64 (rd l (e : Int)))) = fr) (he1 : wrap64 ((e : Int) + 1) = e1) (hm : wrap64 (m - 1) = 4000) :
    spec_l01Fewest.l4 (k + 1) l b m T (e : Int) c s = (some (decide (0 ≤ fr ∧ fr ≤ 4000))).bind fun t133 => (if t133 = true then (if 0 ≤ e1 then (if e1 < (T.length : Int) then (if 0 ≤ fr then (if fr < ((rd_L2 T e1).length : Int) then (spec_l01Fewest.j5 k l b m T (e : Int) c s fr (decide ((rd (rd_L2 T e1) fr) < 0))) else (none)) else (none)) else (none)) else (none)) else (spec_l01Fewest.j5 k l b m T (e : Int) c s fr true)) := by
  have g1 : (0 : Int) ≤ (e : Int) := Int.natCast_nonneg e
  have g2 : (e : Int) < (l.length : Int) := Int.ofNat_lt.mpr he
  conv => lhs; unfold spec_l01Fewest.l4
  simp only [hs, g1, g2, if_true, hfr, he1, hm, l00In_eq]
theorem l4_in {k : Nat} {l : List Int} {b : Bool} {T : List (List Int)} {e : Nat} {c s fr e1 m : Int} (hs : s ≤ 1) (he : e < l.length) (hfr : wrap64 (c - wrap64 (s * wrap64 (rd l (e : Int)))) = fr) (he1 : wrap64 ((e : Int) + 1) = e1) (hm : wrap64 (m - 1) = 4000)
    (a : 0 ≤ fr ∧ fr ≤ 4000) (h1 : 0 ≤ e1) (h2 : e1 < (T.length : Int)) (h3 : fr < ((rd_L2 T e1).length : Int)) :
    spec_l01Fewest.l4 (k + 1) l b m T (e : Int) c s = spec_l01Fewest.j5 k l b m T (e : Int) c s fr (decide ((rd (rd_L2 T e1) fr) < 0)) := by
  rw [l4_gen hs he hfr he1 hm, decide_eq_true a]
  simp only [Option.bind_some, if_true, h1, h2, a.1, h3]
theorem l4_out {k : Nat} {l : List Int} {b : Bool} {T : List (List Int)} {e : Nat} {c s fr m : Int} (hs : s ≤ 1) (he : e < l.length) (hfr : wrap64 (c - wrap64 (s * wrap64 (rd l (e : Int)))) = fr) (hm : wrap64 (m - 1) = 4000)
    (a : ¬ (0 ≤ fr ∧ fr ≤ 4000)) : spec_l01Fewest.l4 (k + 1) l b m T (e : Int) c s = spec_l01Fewest.j5 k l b m T (e : Int) c s fr true := by
  rw [l4_gen hs he hfr rfl hm, decide_eq_false a]
  simp only [Option.bind_some, Bool.false_eq_true, if_false]
theorem j5_true {k : Nat} {l : List Int} {b : Bool} {T : List (List Int)} {e c s fr m s1 : Int} (h : wrap64 (s + 1) = s1) : spec_l01Fewest.j5 (k + 1) l b m T e c s fr true = spec_l01Fewest.l4 k l b m T e c s1 := by
  conv => lhs; unfold spec_l01Fewest.j5
  simp only [if_true, h]
theorem j5_false {k : Nat} {l : List Int} {b : Bool} {T : List (List Int)} {e c : Nat} {s fr m s1 e1 n : Int} (h : wrap64 (s + 1) = s1) (he1 : wrap64 ((e : Int) + 1) = e1) (h1 : 0 ≤ e1) (h2 : e1 < (T.length : Int)) (h3 : 0 ≤ fr) (h4 : fr < ((rd_L2 T e1).length : Int)) (h5 : (e : Int) < (T.length : Int)) (h6 : (c : Int) < ((rd_L2 T (e : Int)).length : Int))
    (hn : wrap64 (rd (rd_L2 T e1) fr + wrap64 (s * s)) = n) :
    spec_l01Fewest.j5 (k + 1) l b m T (e : Int) (c : Int) s fr false = if rd (rd_L2 T (e : Int)) (c : Int) < 0 then spec_l01Fewest.l4 k l b m (T.set e ((rd_L2 T (e : Int)).set c n)) (e : Int) (c : Int) s1 else if n < rd (rd_L2 T (e : Int)) (c : Int) then spec_l01Fewest.l4 k l b m (T.set e ((rd_L2 T (e : Int)).set c n)) (e : Int) (c : Int) s1 else spec_l01Fewest.l4 k l b m T (e : Int) (c : Int) s1 := by
  have g1 : (0 : Int) ≤ (e : Int) := Int.natCast_nonneg e
  have g2 : (0 : Int) ≤ (c : Int) := Int.natCast_nonneg c
  conv => lhs; unfold spec_l01Fewest.j5
  simp only [Bool.false_eq_true, if_false, he1, h1, h2, h3, h4, g1, g2, h5, h6, if_true, hn, h, Int.toNat_natCast]
section
variable {l : List Int} {b : Bool} {G : List (List Int) → Prop}
theorem few_l4 (ho : Okay l) {e c N : Nat} (he : e < l.length) (hc : c < 4001)
    (Hc : ∀ T, Oth l b T e c → Fin_ l b e c (rd (rd_L2 T (e : Int)) (c : Int)) → ∃ v, G v ∧ ∀ k, N < k → spec_l01Fewest.l3 k l b 4001 T (e : Int) ((c : Int) + 1) = some v) :
    ∀ (d : Nat) (s : Int), s + d = 2 → lo b ≤ s → ∀ T, Oth l b T e c → Part_ l b e c s (rd (rd_L2 T (e : Int)) (c : Int)) → ∃ v, G v ∧ ∀ k, N + 2 * d + 2 < k → spec_l01Fewest.l4 k l b 4001 T (e : Int) (c : Int) s = some v := by
  intro d
  induction d with
  | zero =>
    intro s hs hlo T hT hP
    obtain rfl : s = 2 := by omega
    obtain ⟨v, hv, hk⟩ := Hc T hT (part_end he hP)
    refine ⟨v, hv, fun k hk2 => ?_⟩
    obtain ⟨k, rfl⟩ : ∃ m, k = m + 1 := ⟨k - 1, by omega⟩
    simp only [spec_l01Fewest.l4]
    rw [if_neg (by omega), wrap_of (n := (c : Int) + 1) (by omega) (by omega)]
    exact hk k (by omega)
  | succ d ih =>
    intro s hs hlo T hT hP
    have hsc : s = -1 ∨ s = 0 ∨ s = 1 := by unfold lo at hlo; split at hlo <;> omega
    have hs1 : s ≤ 1 := by omega
    have hwi := okay_rd ho e he
    have hl16 := ho.2.1
    obtain ⟨m1, m2, m3, m4⟩ := mul_in hsc hwi
    obtain ⟨fr, hfr⟩ : ∃ fr, fr = (c : Int) - s * rd l (e : Int) := ⟨_, rfl⟩
    have hfw : (c : Int) - 2000 - s * rd l (e : Int) = fr - 2000 := by omega
    have E3 : Aside0 (wrap64 ((c : Int) - wrap64 (s * wrap64 (rd l (e : Int)))) = fr) := ⟨by
      rw [wrap_of (n := rd l (e : Int)) (by omega) (by omega), wrap_of (n := s * rd l (e : Int)) (by omega) (by omega), ← hfr]
      exact wrap_of (by omega) (by omega)⟩
    have E4 : Aside0 (wrap64 (4001 - 1) = 4000) := ⟨wrap_of (by omega) (by omega)⟩
    have E5 : Aside0 (wrap64 ((e : Int) + 1) = ((e + 1 : Nat) : Int)) := ⟨wrap_of (by omega) (by omega)⟩
    have E6 : Aside0 (wrap64 (s + 1) = s + 1) := ⟨wrap_of (by omega) (by omega)⟩
    obtain ⟨hlen, hrows, hrl, hdn, hup, hbl⟩ := hT
    have hT : Oth l b T e c := ⟨hlen, hrows, hrl, hdn, hup, hbl⟩
    have hskip : ways b (l.drop (e + 1)) ((c : Int) - 2000 - s * rd l (e : Int)) = 0 → ∃ v, G v ∧ ∀ k, N + 2 * d + 2 < k → spec_l01Fewest.l4 k l b 4001 T (e : Int) (c : Int) (s + 1) = some v := fun hz => ih (s + 1) (by omega) (by omega) T hT (part_skip hP hz)
    by_cases a : 0 ≤ fr ∧ fr ≤ 4000
    · obtain ⟨q, hq⟩ : ∃ q : Nat, fr = (q : Int) := ⟨fr.toNat, by omega⟩
      obtain ⟨r1, r2⟩ := hrows (e + 1) (by omega) (by omega)
      obtain ⟨u1, u2, u3⟩ := r2 q (by omega)
      rw [← hq] at u1 u2 u3
      have hu1 : (0 : Int) ≤ ((e + 1 : Nat) : Int) := Int.natCast_nonneg _
      have hu2 : ((e + 1 : Nat) : Int) < (T.length : Int) := by omega
      have hu3 : fr < ((rd_L2 T ((e + 1 : Nat) : Int)).length : Int) := by omega
      have hin := fun k => l4_in (k := k) (b := b) hs1 he E3.out E5.out E4.out a hu1 hu2 hu3
      obtain ⟨u, hu⟩ : ∃ u, u = rd (rd_L2 T ((e + 1 : Nat) : Int)) fr := ⟨_, rfl⟩
      rw [← hu] at u1 u2 u3
      rw [← hu] at hin
      have HIN := Aside0.mk hin
      clear hin
      by_cases un : u < 0
      · obtain ⟨v, hv, hk⟩ := hskip (by
          rw [hfw]
          by_cases z : ways b (l.drop (e + 1)) (fr - 2000) = 0
          · exact z
          · exact absurd (u3.mpr z) (by omega))
        refine ⟨v, hv, fun k hk2 => ?_⟩
        obtain ⟨k, rfl⟩ : ∃ m, k = m + 1 + 1 := ⟨k - 2, by omega⟩
        rw [HIN.out, decide_eq_true un, j5_true E6.out]
        exact hk k (by omega)
      · have hz : ways b (l.drop (e + 1)) ((c : Int) - 2000 - s * rd l (e : Int)) ≠ 0 := by rw [hfw]; exact u3.mp (by omega)
        have E8 : Aside0 (wrap64 (u + wrap64 (s * s)) = u + s * s) := ⟨by rw [wrap_of (n := s * s) (by omega) (by omega)]; exact wrap_of (by omega) (by omega)⟩
        have hu5 : (e : Int) < (T.length : Int) := by omega
        have hu6 : (c : Int) < ((rd_L2 T (e : Int)).length : Int) := by omega
        have HJ := Aside0.mk (fun k => j5_false (k := k) (l := l) (b := b) (T := T) (e := e) (c := c) (m := 4001) E6.out E5.out hu1 hu2 a.1 hu3 hu5 hu6 (n := u + s * s) (by rw [← hu]; exact E8.out))
        obtain ⟨p1, p2, p3⟩ := hP
        have hset : ∃ v, G v ∧ ∀ k, N + 2 * d + 2 < k → spec_l01Fewest.l4 k l b 4001 (T.set e ((rd_L2 T (e : Int)).set c (u + s * s))) (e : Int) (c : Int) (s + 1) = some v := by
          obtain ⟨o1, o2⟩ := oth_set hT hc (by omega) (u + s * s)
          exact ih (s + 1) (by omega) (by omega) _ o1 (by rw [o2]; exact part_hit hlo (by omega) (by omega) hz)
        by_cases x0 : rd (rd_L2 T (e : Int)) (c : Int) < 0
        · obtain ⟨v, hv, hk⟩ := hset
          refine ⟨v, hv, fun k hk2 => ?_⟩
          obtain ⟨k, rfl⟩ : ∃ m, k = m + 1 + 1 := ⟨k - 2, by omega⟩
          rw [HIN.out, decide_eq_false un, HJ.out, if_pos x0]
          exact hk k (by omega)
        · by_cases x1 : u + s * s < rd (rd_L2 T (e : Int)) (c : Int)
          · obtain ⟨v, hv, hk⟩ := hset
            refine ⟨v, hv, fun k hk2 => ?_⟩
            obtain ⟨k, rfl⟩ : ∃ m, k = m + 1 + 1 := ⟨k - 2, by omega⟩
            rw [HIN.out, decide_eq_false un, HJ.out, if_neg x0, if_pos x1]
            exact hk k (by omega)
          · obtain ⟨v, hv, hk⟩ := ih (s + 1) (by omega) (by omega) T hT (part_hit hlo (by omega) p2 hz)
            refine ⟨v, hv, fun k hk2 => ?_⟩
            obtain ⟨k, rfl⟩ : ∃ m, k = m + 1 + 1 := ⟨k - 2, by omega⟩
            rw [HIN.out, decide_eq_false un, HJ.out, if_neg x0, if_neg x1]
            exact hk k (by omega)
    · obtain ⟨v, hv, hk⟩ := hskip (by
        rw [hfw]
        by_cases z : ways b (l.drop (e + 1)) (fr - 2000) = 0
        · exact z
        · have w1 := ways_far b (l.drop (e + 1)) (fr - 2000) (fun y hy => ho.2.2.1 y (List.mem_of_mem_drop hy)) z
          have w2 := sum_drop l (e + 1) ho.2.2.1
          have w3 := ho.2.2.2
          omega)
      refine ⟨v, hv, fun k hk2 => ?_⟩
      obtain ⟨k, rfl⟩ : ∃ m, k = m + 1 + 1 := ⟨k - 2, by omega⟩
      rw [l4_out hs1 he E3.out E4.out a, j5_true E6.out]
      exact hk k (by omega)
theorem few_l3 (ho : Okay l) {e N : Nat} (he : e < l.length)
    (Hc : ∀ T, Oth l b T e 4001 → ∃ v, G v ∧ ∀ k, N < k → spec_l01Fewest.l2 k l b 4001 T ((e : Int) - 1) = some v) :
    ∀ (d c : Nat), c + d = 4001 → ∀ T, Oth l b T e c → (c < 4001 → rd (rd_L2 T (e : Int)) (c : Int) = -1) → ∃ v, G v ∧ ∀ k, N + 12 * d + 2 < k → spec_l01Fewest.l3 k l b 4001 T (e : Int) (c : Int) = some v := by
  intro d
  induction d with
  | zero =>
    intro c hcd T hT _
    obtain rfl : c = 4001 := by omega
    have hl16 := ho.2.1
    obtain ⟨v, hv, hk⟩ := Hc T hT
    refine ⟨v, hv, fun k hk2 => ?_⟩
    obtain ⟨k, rfl⟩ : ∃ m, k = m + 1 := ⟨k - 1, by omega⟩
    simp only [spec_l01Fewest.l3]
    rw [if_neg (by omega), wrap_of (n := (e : Int) - 1) (by omega) (by omega)]
    exact hk k (by omega)
  | succ d ih =>
    intro c hcd T hT hm
    have hlo : lo b ≤ 1 ∧ -1 ≤ lo b := by unfold lo; split <;> omega
    obtain ⟨t, ht⟩ : ∃ t : Nat, lo b + t = 2 := ⟨(2 - lo b).toNat, by omega⟩
    obtain ⟨v, hv, hk⟩ := few_l4 (b := b) (G := G) ho he (show c < 4001 by omega) (N := N + 12 * d + 2) (fun T' o1 f1 => by
      obtain ⟨h1, h2, h3, h4, h5, h6⟩ := o1
      have := ih (c + 1) (by omega) T' ⟨h1, h2, h3, fun q hq => by
        by_cases e1 : q = c
        · subst e1; exact f1
        · exact h4 q (by omega), fun q hq hq2 => h5 q (by omega) hq2, h6⟩ (fun hc2 => h5 (c + 1) (by omega) hc2)
      rw [show ((c + 1 : Nat) : Int) = (c : Int) + 1 by omega] at this
      exact this) t (lo b) ht (by omega) T hT (by rw [hm (by omega)]; exact part_start he)
    refine ⟨v, hv, fun k hk2 => ?_⟩
    obtain ⟨k, rfl⟩ : ∃ m, k = m + 1 := ⟨k - 1, by omega⟩
    simp only [spec_l01Fewest.l3]
    rw [if_pos (by omega), show spec_l01Least.f b = some (lo b) by unfold spec_l01Least.f lo; cases b <;> rfl]
    simp only [Option.bind_some]
    exact hk k (by omega)
theorem few_l2 (ho : Okay l) : ∀ (m : Nat), m ≤ l.length → ∀ T, T.length = l.length + 1 → (∀ r : Nat, m ≤ r → r ≤ l.length → Rowd l b r (rd_L2 T (r : Int))) → (∀ r : Nat, r < m → Blank (rd_L2 T (r : Int))) →
    ∃ v, (v.length = l.length + 1 ∧ Rowd l b 0 (rd_L2 v 0)) ∧ ∀ k, 50000 * m + 2 < k → spec_l01Fewest.l2 k l b 4001 T ((m : Int) - 1) = some v := by
  intro m
  induction m with
  | zero =>
    intro hm T h1 h2 h3
    refine ⟨T, ⟨h1, h2 0 (by omega) (by omega)⟩, fun k hk2 => ?_⟩
    obtain ⟨k, rfl⟩ : ∃ m, k = m + 1 := ⟨k - 1, by omega⟩
    simp only [spec_l01Fewest.l2]
    rw [if_neg (by omega)]
  | succ m ih =>
    intro hm T h1 h2 h3
    obtain ⟨b1, b2⟩ := h3 m (by omega)
    obtain ⟨v, hv, hk⟩ := few_l3 (b := b) (G := fun v => v.length = l.length + 1 ∧ Rowd l b 0 (rd_L2 v 0)) ho (show m < l.length by omega) (N := 50000 * m + 2) (fun T' o => by
      obtain ⟨o1, o2, o3, o4, o5, o6⟩ := o
      exact ih (by omega) T' o1 (fun r hr hr2 => by
        by_cases e1 : r = m
        · subst e1; exact ⟨o3, fun c hc => o4 c hc⟩
        · exact o2 r (by omega) hr2) o6) 4001 0 (by omega) T ⟨h1, fun r hr hr2 => h2 r (by omega) hr2, b1, fun d hd => absurd hd (by omega), fun d _ hd => b2 d hd, fun r hr => h3 r (by omega)⟩ (fun hc => b2 0 hc)
    refine ⟨v, hv, fun k hk2 => ?_⟩
    obtain ⟨k, rfl⟩ : ∃ m, k = m + 1 := ⟨k - 1, by omega⟩
    simp only [spec_l01Fewest.l2]
    rw [if_pos (by omega), show (((m + 1 : Nat) : Int) - 1) = (m : Int) by omega]
    exact hk k (by omega)
theorem few_l1 (ho : Okay l) {i N : Nat} (hi : i ≤ l.length)
    (Hc : ∀ T, T.length = l.length + 1 → (∀ r : Nat, r ≤ i → Blank (rd_L2 T (r : Int))) → ∃ v, G v ∧ ∀ k, N < k → spec_l01Fewest.l0 k l b 4001 T ((i : Int) + 1) = some v) :
    ∀ (d c : Nat), c + d = 4001 → ∀ T, T.length = l.length + 1 → (∀ r : Nat, r < i → Blank (rd_L2 T (r : Int))) → (rd_L2 T (i : Int)).length = 4001 → (∀ q : Nat, q < c → rd (rd_L2 T (i : Int)) (q : Int) = -1) →
    ∃ v, G v ∧ ∀ k, N + d + 1 < k → spec_l01Fewest.l1 k l b 4001 T (i : Int) (c : Int) = some v := by
  intro d
  induction d with
  | zero =>
    intro c hcd T h1 h2 h3 h4
    obtain rfl : c = 4001 := by omega
    obtain ⟨v, hv, hk⟩ := Hc T h1 (fun r hr => by
      by_cases e1 : r = i
      · subst e1; exact ⟨h3, h4⟩
      · exact h2 r (by omega))
    refine ⟨v, hv, fun k hk2 => ?_⟩
    obtain ⟨k, rfl⟩ : ∃ m, k = m + 1 := ⟨k - 1, by omega⟩
    simp only [spec_l01Fewest.l1]
    have hL := ho.2.1
    rw [if_neg (by omega), wrap_of (n := (i : Int) + 1) (by omega) (by omega)]
    exact hk k (by omega)
  | succ d ih =>
    intro c hcd T h1 h2 h3 h4
    have e1 := rdL_self (T := T) (i := i) ((rd_L2 T (i : Int)).set c (-1)) (by omega)
    obtain ⟨v, hv, hk⟩ := ih (c + 1) (by omega) (T.set i ((rd_L2 T (i : Int)).set c (-1))) (by rw [List.length_set]; exact h1) (fun r hr => by rw [rdL_other _ (by omega)]; exact h2 r hr) (by rw [e1, List.length_set]; exact h3) (fun q hq => by
      rw [e1]
      by_cases e2 : q = c
      · subst e2; exact rd_set_self _ (by omega)
      · rw [rd_set_other _ e2]; exact h4 q (by omega))
    refine ⟨v, hv, fun k hk2 => ?_⟩
    obtain ⟨k, rfl⟩ : ∃ m, k = m + 1 := ⟨k - 1, by omega⟩
    simp only [spec_l01Fewest.l1]
    rw [if_pos (by omega), if_pos (by omega), if_pos (by omega), if_pos (by omega), if_pos (by omega), Int.toNat_natCast, Int.toNat_natCast, wrap_of (n := (c : Int) + 1) (by omega) (by omega)]
    exact hk k (by omega)
theorem l0_in {k : Nat} {l : List Int} {b : Bool} {T : List (List Int)} {i : Nat} (hi : i ≤ l.length) (hT : i < T.length) : spec_l01Fewest.l0 (k + 1) l b 4001 T (i : Int) = spec_l01Fewest.l1 k l b 4001 (T.set i (List.replicate 4001 0)) (i : Int) 0 := by
  have g1 : (0 : Int) ≤ (i : Int) := Int.natCast_nonneg i
  have g2 : (i : Int) ≤ (l.length : Int) := Int.ofNat_le.mpr hi
  have g3 : (i : Int) < (T.length : Int) := Int.ofNat_lt.mpr hT
  have g4 : (0 : Int) ≤ 4001 := by decide
  have g5 : (4001 : Int).toNat ≤ 35184372088832 := by decide
  have g6 : (4001 : Int).toNat = 4001 := rfl
  conv => lhs; unfold spec_l01Fewest.l0
  rw [if_pos g2, if_pos g4, if_pos g5, if_pos g1, if_pos g3, g6, Int.toNat_natCast]
theorem l0_out {k : Nat} {l : List Int} {b : Bool} {T : List (List Int)} {r : Int} (hT : T.length = l.length + 1) (hr : (rd_L2 T (l.length : Int)).length = 4001) (hm : wrap64 ((l.length : Int) - 1) = r) :
    spec_l01Fewest.l0 (k + 1) l b 4001 T ((l.length + 1 : Nat) : Int) = spec_l01Fewest.l2 k l b 4001 (T.set l.length ((rd_L2 T (l.length : Int)).set 2000 0)) r := by
  have g1 : (0 : Int) ≤ (l.length : Int) := Int.natCast_nonneg _
  have g2 : ¬ (((l.length + 1 : Nat) : Int) ≤ (l.length : Int)) := by omega
  have g3 : (l.length : Int) < (T.length : Int) := by omega
  have g4 : (2000 : Int) < ((rd_L2 T (l.length : Int)).length : Int) := by rw [hr]; decide
  have g6 : (2000 : Int).toNat = 2000 := rfl
  conv => lhs; unfold spec_l01Fewest.l0
  rw [if_neg g2, if_pos g1, if_pos g3, if_pos g4, g6, Int.toNat_natCast, hm]
theorem few_l0 (ho : Okay l) : ∀ (d i : Nat), i + d = l.length + 1 → ∀ T, T.length = l.length + 1 → (∀ r : Nat, r < i → Blank (rd_L2 T (r : Int))) → ∃ v, (v.length = l.length + 1 ∧ Rowd l b 0 (rd_L2 v 0)) ∧ ∀ k, 4100 * d + 50000 * l.length + 100 < k → spec_l01Fewest.l0 k l b 4001 T (i : Int) = some v := by
  intro d
  induction d with
  | zero =>
    intro i hid T hT hB
    obtain rfl : i = l.length + 1 := by omega
    obtain ⟨b1, b2⟩ := hB l.length (by omega)
    have hl16 := ho.2.1
    have e1 := rdL_self (T := T) (i := l.length) ((rd_L2 T (l.length : Int)).set 2000 0) (by omega)
    obtain ⟨v, hv, hk⟩ := few_l2 (b := b) ho l.length (Nat.le_refl _) (T.set l.length ((rd_L2 T (l.length : Int)).set 2000 0)) (by rw [List.length_set]; exact hT) (fun r hr hr2 => by
      obtain rfl : r = l.length := by omega
      rw [e1]
      refine ⟨by rw [List.length_set]; exact b1, fun c hc => ?_⟩
      unfold Fin_
      rw [List.drop_length]
      by_cases e2 : c = 2000
      · subst e2
        rw [rd_set_self _ (by omega)]
        exact ⟨by omega, by omega, ⟨fun _ => by simp [ways], fun _ => by omega⟩⟩
      · rw [rd_set_other _ e2, b2 c hc]
        refine ⟨by omega, by omega, ⟨fun h => by omega, fun h => ?_⟩⟩
        unfold ways at h
        rw [if_neg (by omega)] at h
        exact absurd rfl h) (fun r hr => by rw [rdL_other _ (by omega)]; exact hB r (by omega))
    refine ⟨v, hv, fun k hk2 => ?_⟩
    obtain ⟨k, rfl⟩ : ∃ m, k = m + 1 := ⟨k - 1, by omega⟩
    rw [l0_out hT b1 (wrap_of (by omega) (by omega))]
    exact hk k (by omega)
  | succ d ih =>
    intro i hid T hT hB
    have e1 := rdL_self (T := T) (i := i) (List.replicate 4001 0) (by omega)
    obtain ⟨v, hv, hk⟩ := few_l1 (b := b) (G := fun v => v.length = l.length + 1 ∧ Rowd l b 0 (rd_L2 v 0)) ho (show i ≤ l.length by omega) (N := 4100 * d + 50000 * l.length + 100) (fun T' h1 h2 => by
      have := ih (i + 1) (by omega) T' h1 (fun r hr => h2 r (by omega))
      rw [show ((i + 1 : Nat) : Int) = (i : Int) + 1 by omega] at this
      exact this) 4001 0 (by omega) (T.set i (List.replicate 4001 0)) (by rw [List.length_set]; exact hT) (fun r hr => by rw [rdL_other _ (by omega)]; exact hB r hr) (by rw [e1, List.length_replicate]) (fun q hq => absurd hq (by omega))
    refine ⟨v, hv, fun k hk2 => ?_⟩
    obtain ⟨k, rfl⟩ : ∃ m, k = m + 1 := ⟨k - 1, by omega⟩
    rw [l0_in (by omega) (by omega)]
    exact hk k (by omega)
/-- The table's first row tells which masses are balanced. -/
theorem few_f (ho : Okay l) : ∃ v, (v.length = l.length + 1 ∧ Rowd l b 0 (rd_L2 v 0)) ∧ ∀ k, 900000 < k → spec_l01Fewest.f k l b = some v := by
  have hl16 := ho.2.1
  obtain ⟨v, hv, hk⟩ := few_l0 (b := b) ho (l.length + 1) 0 (by omega) (List.replicate (l.length + 1) []) (by rw [List.length_replicate]) (fun r hr => absurd hr (by omega))
  refine ⟨v, hv, fun k hk2 => ?_⟩
  have e1 : wrap64 ((l.length : Int) + 1) = ((l.length + 1 : Nat) : Int) := wrap_of (by omega) (by omega)
  unfold spec_l01Fewest.f
  rw [e1, if_pos (by omega), if_pos (by rw [Int.toNat_natCast]; omega), Int.toNat_natCast]
  exact hk k (by omega)
end

end Go.Proofs.Ythhihmhcfodjiaa.R
