/- The amounts on both sides. -/
import Derived.Test.YteciomagemjjaaaLAmiJ
import Derived.Test.YteciomagemjjaaaLAmsJ
import Derived.Test.YteciomagemjjaaaLSrcJ
namespace Go.Proofs.Yteciomagemjjaaa.J
open Go.RowKit Go.Proofs.YteciomagemjjaaaW.PrintWords Go.Proofs.YteciomagemjjaaaW.PrintLast Go.Proofs.YteciomagemjjaaaW.PrintMore
set_option linter.unusedVariables false
set_option linter.unusedSimpArgs false

theorem eq_of_mem : ∀ (l m : List Int), l.Pairwise (· < ·) → m.Pairwise (· < ·) → (∀ x, x ∈ l ↔ x ∈ m) → l = m := by
  intro l
  induction l with
  | nil =>
    intro m _ _ h
    cases m with
    | nil => rfl
    | cons y m => exact absurd ((h y).mpr (List.mem_cons_self ..)) (by simp)
  | cons x l ih =>
    intro m hl hm h
    cases m with
    | nil => exact absurd ((h x).mp (List.mem_cons_self ..)) (by simp)
    | cons y m =>
      have hl' := List.pairwise_cons.mp hl
      have hm' := List.pairwise_cons.mp hm
      have e : x = y := by
        have h1 := (h x).mp (List.mem_cons_self ..)
        have h2 := (h y).mpr (List.mem_cons_self ..)
        rcases List.mem_cons.mp h1 with h1 | h1
        · exact h1
        · rcases List.mem_cons.mp h2 with h2 | h2
          · exact h2.symm
          · have := hl'.1 y h2
            have := hm'.1 x h1
            omega
      subst e
      rw [ih m hl'.2 hm'.2 (fun z => ?_)]
      constructor
      · intro hz
        have := hl'.1 z hz
        rcases List.mem_cons.mp ((h z).mp (List.mem_cons_of_mem _ hz)) with h3 | h3
        · omega
        · exact h3
      · intro hz
        have := hm'.1 z hz
        rcases List.mem_cons.mp ((h z).mpr (List.mem_cons_of_mem _ hz)) with h3 | h3
        · omega
        · exact h3
theorem upTo_f (d : Array Int) (hs : ∀ i j, i < j → j < d.size → d[i]! ≤ d[j]!) : ∀ m, m ≤ d.size → (Lib.compactUpTo d m).Pairwise (· < ·) ∧ ∀ x, x ∈ Lib.compactUpTo d m ↔ ∃ j, j < m ∧ d[j]! = x := by
  intro m
  induction m with
  | zero => intro _; simp [Lib.compactUpTo]
  | succ m ih =>
    intro hm
    obtain ⟨h1, h2⟩ := ih (by omega)
    rw [Lib.compactUpTo_succ]
    by_cases h0 : m = 0
    · subst h0
      rw [if_pos (Lib.keeps_lt_one d 0 (by omega))]
      have e : Lib.compactUpTo d 0 = [] := by simp [Lib.compactUpTo]
      rw [e, List.nil_append]
      refine ⟨by simp, fun x => ?_⟩
      rw [List.mem_singleton]
      exact ⟨fun h => ⟨0, by omega, h.symm⟩, fun ⟨j, hj, h⟩ => by obtain rfl : j = 0 := by omega
                                                                  exact h.symm⟩
    · by_cases hk : d[m]! = d[m - 1]!
      · rw [Lib.keeps_neg (by omega) hk, if_neg (by decide), List.append_nil]
        refine ⟨h1, fun x => ?_⟩
        rw [h2]
        constructor
        · rintro ⟨j, hj, h⟩
          exact ⟨j, by omega, h⟩
        · rintro ⟨j, hj, h⟩
          by_cases e : j = m
          · subst e
            exact ⟨j - 1, by omega, by rw [← hk]; exact h⟩
          · exact ⟨j, by omega, h⟩
      · rw [if_pos (Lib.keeps_pos hk)]
        have hlt : d[m - 1]! < d[m]! := by have := hs (m - 1) m (by omega) (by omega); omega
        refine ⟨List.pairwise_append.mpr ⟨h1, by simp, fun a ha b hb => ?_⟩, fun x => ?_⟩
        · obtain ⟨j, hj, rfl⟩ := (h2 a).mp ha
          rw [List.mem_singleton] at hb
          subst hb
          by_cases e : j = m - 1
          · subst e; exact hlt
          · have := hs j (m - 1) (by omega) (by omega)
            omega
        · rw [List.mem_append, h2, List.mem_singleton]
          constructor
          · rintro (⟨j, hj, h⟩ | h)
            · exact ⟨j, by omega, h⟩
            · exact ⟨m, by omega, h.symm⟩
          · rintro ⟨j, hj, h⟩
            by_cases e : j = m
            · subst e; exact Or.inr h.symm
            · exact Or.inl ⟨j, by omega, h⟩
theorem srt_f (xs : List Int) : (Lib.compact (xs.mergeSort fun x y => decide (x ≤ y))).Pairwise (· < ·) ∧ ∀ x, x ∈ Lib.compact (xs.mergeSort fun x y => decide (x ≤ y)) ↔ x ∈ xs := by
  have hp : (xs.mergeSort fun x y => decide (x ≤ y)).Pairwise (fun a b => decide (a ≤ b) = true) := List.pairwise_mergeSort (fun a b c h1 h2 => by simp at *; omega) (fun a b => by simp; omega) xs
  have hm : ∀ x, x ∈ (xs.mergeSort fun x y => decide (x ≤ y)) ↔ x ∈ xs := fun x => (List.mergeSort_perm xs _).mem_iff
  generalize (xs.mergeSort fun x y => decide (x ≤ y)) = ys at hp hm ⊢
  have hg : ∀ j, j < ys.length → ys.toArray[j]! = ys.getD j 0 := fun j hj => by simp [List.getD_eq_getElem?_getD, hj]
  have hs : ∀ i j, i < j → j < ys.toArray.size → ys.toArray[i]! ≤ ys.toArray[j]! := fun i j hij hj => by
    have hj' : j < ys.length := by simpa using hj
    have := List.pairwise_iff_getElem.mp hp i j (by omega) hj' hij
    rw [hg i (by omega), hg j hj']
    simpa [List.getD_eq_getElem?_getD, hj', show i < ys.length by omega] using this
  have h := upTo_f ys.toArray hs ys.length (by simp)
  refine ⟨h.1, fun x => ?_⟩
  unfold Lib.compact
  rw [h.2, ← hm x]
  constructor
  · rintro ⟨j, hj, rfl⟩
    rw [hg j hj]
    simp [List.getD_eq_getElem?_getD, hj]
  · intro hx
    obtain ⟨j, hj, rfl⟩ := List.getElem_of_mem hx
    exact ⟨j, hj, by rw [hg j hj]; simp [List.getD_eq_getElem?_getD, hj]⟩
theorem out_f (bs : List Bool) : ∀ (d x : Nat), (zrb bs x d).Pairwise (· < ·) ∧ ∀ y, y ∈ zrb bs x d ↔ ∃ n : Nat, x ≤ n ∧ n < x + d ∧ bs.getD n false = true ∧ y = (n : Int) := by
  intro d
  induction d with
  | zero =>
    intro x
    rw [ztc]
    exact ⟨List.Pairwise.nil, fun y => ⟨(fun h => by cases h), fun ⟨n, h1, h2, _⟩ => by omega⟩⟩
  | succ d ih =>
    intro x
    obtain ⟨h1, h2⟩ := ih (x + 1)
    rw [zqc]
    by_cases c : bs.getD x false = true
    · rw [if_pos c]
      refine ⟨List.pairwise_cons.mpr ⟨fun y hy => ?_, h1⟩, fun y => ?_⟩
      · obtain ⟨n, a1, a2, a3, rfl⟩ := (h2 y).mp hy
        omega
      · rw [List.mem_cons, h2]
        constructor
        · rintro (rfl | ⟨n, a1, a2, a3, a4⟩)
          · exact ⟨x, by omega, by omega, c, rfl⟩
          · exact ⟨n, by omega, by omega, a3, a4⟩
        · rintro ⟨n, a1, a2, a3, a4⟩
          by_cases e : n = x
          · subst e; exact Or.inl a4
          · exact Or.inr ⟨n, by omega, by omega, a3, a4⟩
    · rw [if_neg c]
      refine ⟨h1, fun y => ?_⟩
      rw [h2]
      constructor
      · rintro ⟨n, a1, a2, a3, a4⟩
        exact ⟨n, by omega, by omega, a3, a4⟩
      · rintro ⟨n, a1, a2, a3, a4⟩
        by_cases e : n = x
        · subst e; exact absurd a3 c
        · exact ⟨n, by omega, by omega, a3, a4⟩
theorem mkW_f : ∀ (vs : List Int) (bs : List Bool) (n : Nat), n < bs.length → ((mkW vs bs).getD n false = true ↔ bs.getD n false = true ∨ ∃ v ∈ vs, v.toNat = n) := by
  intro vs
  induction vs with
  | nil => intro bs n hn; simp [mkW]
  | cons v vs ih =>
    intro bs n hn
    rw [mkW, ih _ n (by rw [List.length_set]; exact hn)]
    by_cases e : v.toNat = n
    · subst e
      simp [List.getD_eq_getElem?_getD, hn]
    · have : (bs.set v.toNat true).getD n false = bs.getD n false := by simp [List.getD_eq_getElem?_getD, List.getElem?_set, e]
      rw [this]
      constructor
      · rintro (h | ⟨u, hu, h⟩)
        · exact Or.inl h
        · exact Or.inr ⟨u, List.mem_cons_of_mem _ hu, h⟩
      · rintro (h | ⟨u, hu, h⟩)
        · exact Or.inl h
        · rcases List.mem_cons.mp hu with rfl | hu
          · exact absurd h e
          · exact Or.inr ⟨u, hu, h⟩
/-- The amounts of a water that are looked at. -/
def ws (l : List Int) (x : S27) : List Int := [x.f0, x.f1, x.f2, x.f3].take l.length
/-- All amounts of some elements of the queue. -/
def AMT (l : List Int) (q : List S82) : List Int := q.flatMap fun e => ws l e.f0
theorem wat_in {l : List Int} (J : Jugs l) {x : S27} (h : watS l x) : ∀ v ∈ [x.f0, x.f1, x.f2, x.f3], 0 ≤ v ∧ v ≤ 60 := by
  have f := fun j hj => h j hj
  have g : ∀ j : Nat, j < 4 → 0 ≤ rd [x.f0, x.f1, x.f2, x.f3] (j : Int) ∧ rd [x.f0, x.f1, x.f2, x.f3] (j : Int) ≤ 60 := fun j hj => ⟨(f j hj).1, by have := (zze J j).2; have := (f j hj).2; omega⟩
  intro v hv
  simp only [List.mem_cons, List.not_mem_nil, or_false] at hv
  rcases hv with rfl | rfl | rfl | rfl
  · exact g 0 (by omega)
  · exact g 1 (by omega)
  · exact g 2 (by omega)
  · exact g 3 (by omega)
theorem ws_in {l : List Int} (J : Jugs l) {x : S27} (h : watS l x) : ∀ v ∈ ws l x, 0 ≤ v ∧ v ≤ 60 := fun v hv => wat_in J h v (List.mem_of_mem_take hv)
theorem ws_len {l : List Int} (hl : l.length ≤ 4) (x : S27) : (ws l x).length = l.length := by
  unfold ws
  rw [List.length_take]
  exact Nat.min_eq_left hl
theorem amB_f {l : List Int} (J : Jugs l) (a b c d : Int) (tap : Bool) (k : Nat) (hk : 4 < k) : ∀ (q : List S82) (bs : List Bool), (∀ e ∈ q, watS l e.f0) → bs.length = 61 → ∃ b2, amB k l a b c d tap (ords l q) bs = some b2 ∧ b2.length = 61 ∧ ∀ n : Nat, n < 61 → (b2.getD n false = true ↔ bs.getD n false = true ∨ ∃ v ∈ AMT l q, v.toNat = n) := by
  intro q
  induction q with
  | nil => intro bs _ hb; exact ⟨bs, rfl, hb, fun n _ => by simp [AMT]⟩
  | cons e q ih =>
    intro bs hq hb
    have he := hq e (List.mem_cons_self ..)
    obtain ⟨b2, h1, h2, h3⟩ := ih (mkW (ws l e.f0) bs) (fun e' h' => hq e' (List.mem_cons_of_mem _ h')) (by rw [mkW_len]; exact hb)
    refine ⟨b2, ?_, h2, fun n hn => ?_⟩
    · rw [show ords l (e :: q) = ix l e.f0 :: ords l q from rfl]
      unfold amB
      have ha : spec_l02At.f k l a b c d tap (ix l e.f0) = some (e.f0.f0, e.f0.f1, e.f0.f2, e.f0.f3) := at_f J a b c d tap he k hk
      rw [ha]
      simp only [Option.bind_some]
      rw [if_pos (wat_in J he)]
      exact h1
    · rw [h3 n hn, mkW_f _ _ n (by omega)]
      unfold AMT
      rw [List.flatMap_cons]
      constructor
      · rintro ((h | ⟨v, hv, h⟩) | ⟨v, hv, h⟩)
        · exact Or.inl h
        · exact Or.inr ⟨v, List.mem_append_left _ hv, h⟩
        · exact Or.inr ⟨v, List.mem_append_right _ hv, h⟩
      · rintro (h | ⟨v, hv, h⟩)
        · exact Or.inl (Or.inl h)
        · rcases List.mem_append.mp hv with hv | hv
          · exact Or.inl (Or.inr ⟨v, hv, h⟩)
          · exact Or.inr ⟨v, hv, h⟩
section
variable {l : List Int} {q : List S82}
theorem ami_l1 (hl : l.length ≤ 4) (hq : q.length ≤ 5000) (a b c d : Int) (tap : Bool) (i : Nat) (hi : i < q.length) (hw : ∀ v ∈ ws l (zl q (i : Int)).f0, 0 ≤ v ∧ v ≤ 60) : ∀ (e j : Nat) (acc : List Int), j + e = l.length → acc.length + e ≤ 100000 → ∀ k, e < k →
    impl_AmountsIn.l1 k acc q (q.length : Int) (i : Int) (wl q (i : Int) l) (l.length : Int) (j : Int) l a b c d tap = impl_AmountsIn.l0 (k - e - 1) (acc ++ (ws l (zl q (i : Int)).f0).drop j) q (q.length : Int) ((i + 1 : Nat) : Int) l a b c d tap := by
  have hwl : wl q (i : Int) l = ws l (zl q (i : Int)).f0 := rfl
  have hlen := ws_len hl (zl q (i : Int)).f0
  rw [hwl]
  intro e
  induction e with
  | zero =>
    intro j acc hj ha k hk
    obtain ⟨k, rfl⟩ : ∃ m, k = m + 1 := ⟨k - 1, by omega⟩
    have n1 : ¬ ((j : Int) < (l.length : Int)) := by omega
    have w2 : wrap64 ((i : Int) + 1) = ((i + 1 : Nat) : Int) := by unfold wrap64; omega
    simp only [impl_AmountsIn.l1]
    rw [if_neg n1, w2, List.drop_eq_nil_of_le (by omega), List.append_nil]
    rfl
  | succ e ih =>
    intro j acc hj ha k hk
    obtain ⟨k, rfl⟩ : ∃ m, k = m + 1 := ⟨k - 1, by omega⟩
    have p1 : (j : Int) < (l.length : Int) := by omega
    have p0 : 0 ≤ (j : Int) := by omega
    have p2 : (j : Int) < ((ws l (zl q (i : Int)).f0).length : Int) := by omega
    have p3 : acc.length < 17592186044416 := by omega
    have w2 : wrap64 ((j : Int) + 1) = ((j + 1 : Nat) : Int) := by unfold wrap64; omega
    have dr := drop_rd (ws l (zl q (i : Int)).f0) j (by omega)
    have hv := hw (rd (ws l (zl q (i : Int)).f0) (j : Int)) (by
      have : rd (ws l (zl q (i : Int)).f0) (j : Int) ∈ (ws l (zl q (i : Int)).f0).drop j := by rw [dr]; exact List.mem_cons_self ..
      exact List.mem_of_mem_drop this)
    have w3 : wrap64 (rd (ws l (zl q (i : Int)).f0) (j : Int)) = rd (ws l (zl q (i : Int)).f0) (j : Int) := by unfold wrap64; omega
    simp only [impl_AmountsIn.l1]
    rw [if_pos p1, if_pos p0, if_pos p2, if_pos p3, w2, w3, ih (j + 1) _ (by omega) (by simp; omega) k (by omega), dr, List.append_assoc]
    rw [show k + 1 - (e + 1) - 1 = k - e - 1 by omega]
    rfl
theorem ami_l0 (hl : l.length ≤ 4) (hq : q.length ≤ 5000) (a b c d : Int) (tap : Bool) (hw : ∀ e ∈ q, ∀ v ∈ ws l e.f0, 0 ≤ v ∧ v ≤ 60) : ∀ (e i : Nat) (acc : List Int), i + e = q.length → acc.length + 4 * e ≤ 90000 → ∀ k, 6 * e < k →
    impl_AmountsIn.l0 k acc q (q.length : Int) (i : Int) l a b c d tap = (sortC.f (acc ++ AMT l (q.drop i))).bind fun t => some (t, 0) := by
  intro e
  induction e with
  | zero =>
    intro i acc hi ha k hk
    obtain ⟨k, rfl⟩ : ∃ m, k = m + 1 := ⟨k - 1, by omega⟩
    have n1 : ¬ ((i : Int) < (q.length : Int)) := by omega
    simp only [impl_AmountsIn.l0]
    rw [if_neg n1, List.drop_eq_nil_of_le (by omega)]
    simp [AMT]
  | succ e ih =>
    intro i acc hi ha k hk
    obtain ⟨k, rfl⟩ : ∃ m, k = m + 1 := ⟨k - 1, by omega⟩
    have p1 : (i : Int) < (q.length : Int) := by omega
    have p0 : 0 ≤ (i : Int) := by omega
    have hlen := ws_len hl (zl q (i : Int)).f0
    have h1 := ami_l1 hl hq a b c d tap i (by omega) (hw _ (zdd q i (by omega))) l.length 0 acc (by omega) (by omega) k (by omega)
    rw [show ((0 : Nat) : Int) = 0 from rfl, List.drop_zero] at h1
    simp only [impl_AmountsIn.l0]
    rw [if_pos p1, if_pos p0, if_pos p1, h1, ih (i + 1) _ (by omega) (by rw [List.length_append]; omega) _ (by omega)]
    have dr : q.drop i = zl q (i : Int) :: q.drop (i + 1) := by
      unfold zl
      rw [Int.toNat_natCast, List.getD_eq_getElem?_getD, List.getElem?_eq_getElem (show i < q.length by omega), Option.getD_some]
      exact List.drop_eq_getElem_cons (by omega)
    rw [dr, List.append_assoc]
    rfl
theorem AMT_len (hl : l.length ≤ 4) : ∀ q : List S82, (AMT l q).length = l.length * q.length := by
  intro q
  induction q with
  | nil => simp [AMT]
  | cons e q ih =>
    have : AMT l (e :: q) = ws l e.f0 ++ AMT l q := by unfold AMT; rw [List.flatMap_cons]
    rw [this, List.length_append, ws_len hl, ih, List.length_cons, Nat.mul_add, Nat.mul_one, Nat.add_comm]
end
theorem rep_getD (m n : Nat) : (List.replicate m false).getD n false = false := by
  rw [List.getD_eq_getElem?_getD, List.getElem?_replicate]
  split <;> rfl
theorem amt_eq {l : List Int} (J : Jugs l) (q : List S82) (hq : ∀ e ∈ q, watS l e.f0) (b2 : List Bool) (h : ∀ n : Nat, n < 61 → (b2.getD n false = true ↔ (List.replicate 61 false).getD n false = true ∨ ∃ v ∈ AMT l q, v.toNat = n)) : Lib.compact ((AMT l q).mergeSort fun x y => decide (x ≤ y)) = zrb b2 0 61 := by
  have hs := srt_f (AMT l q)
  have ho := out_f b2 61 0
  refine eq_of_mem _ _ hs.1 ho.1 (fun x => ?_)
  rw [hs.2, ho.2]
  have hin : ∀ v ∈ AMT l q, 0 ≤ v ∧ v ≤ 60 := fun v hv => by
    obtain ⟨e, he, hv⟩ := List.mem_flatMap.mp hv
    exact ws_in J (hq e he) v hv
  have hr : ∀ n : Nat, (List.replicate 61 false).getD n false = false := fun n => rep_getD 61 n
  constructor
  · intro hx
    have hb := hin x hx
    refine ⟨x.toNat, by omega, by omega, (h _ (by omega)).mpr (Or.inr ⟨x, hx, rfl⟩), by omega⟩
  · rintro ⟨n, -, h2, h3, rfl⟩
    rcases (h n (by omega)).mp h3 with h4 | ⟨v, hv, h4⟩
    · rw [hr n] at h4
      cases h4
    · have hb := hin v hv
      rw [← h4, show ((v.toNat : Nat) : Int) = v by omega]
      exact hv
theorem amts_f (l : List Int) (a b c d : Int) (tap : Bool) (hl : l.length ≤ 1048576) : ∃ v : List Int × Int, v.1.length ≤ 61 ∧ ∀ k, 2100000 < k → spec_AmountsIn.f k l a b c d tap = some v ∧ impl_AmountsIn.f k l a b c d tap = some v := by
  obtain ⟨v, hv, hk⟩ := ok_f l a b c d tap hl
  cases v with
  | false =>
    refine ⟨([], 1), by simp, fun k h => ?_⟩
    obtain ⟨h1, h2, -⟩ := hk k (by omega)
    unfold spec_AmountsIn.f impl_AmountsIn.f
    rw [h1, h2]
    exact ⟨rfl, rfl⟩
  | true =>
    obtain ⟨o1, o2, o3, o4, o5⟩ := hv rfl
    have J : Jugs l := ⟨o1, o2, o3, o4⟩
    obtain ⟨P, q, t, f, bb, hP, R, hF⟩ := both_f J a b c d tap o5 (fun k h => (hk k h).2.2 rfl)
    have hql := R.len J hP
    have pp := PR_pos o3
    have hq0 := R.hd.1
    have hol : (ords l q).length = q.length := by simp [ords]
    obtain ⟨b2, hb1, hb2, hb3⟩ := amB_f J a b c d tap 5 (by omega) q (List.replicate 61 false) R.val (List.length_replicate ..)
    have hall : ∀ k, 4 < k → amB k l a b c d tap (ords l q) (List.replicate 61 false) = some b2 := fun k h => by
      obtain ⟨b3, h1, h2, h3⟩ := amB_f J a b c d tap k h q (List.replicate 61 false) R.val (List.length_replicate ..)
      rw [h1]
      congr 1
      refine List.ext_getElem (by omega) (fun n g1 g2 => ?_)
      have e1 := h3 n (by omega)
      have e2 := hb3 n (by omega)
      have e3 : b3.getD n false = true ↔ b2.getD n false = true := e1.trans e2.symm
      simp only [List.getD_eq_getElem?_getD, List.getElem?_eq_getElem g1, List.getElem?_eq_getElem g2, Option.getD_some] at e3
      exact Bool.eq_iff_iff.mpr e3
    have heq := amt_eq J q R.val b2 hb3
    refine ⟨(zrb b2 0 61, 0), ?_, fun k h => ⟨?_, ?_⟩⟩
    · have : ∀ (d x : Nat), (zrb b2 x d).length ≤ d := by
        intro d
        induction d with
        | zero => intro x; rw [ztc]; simp
        | succ d ih =>
          intro x
          rw [zqc]
          have := ih (x + 1)
          split
          · simp; omega
          · omega
      exact this 61 0
    · obtain ⟨h1, h2, -⟩ := hk k (by omega)
      obtain ⟨f1, f2⟩ := hF k (by omega)
      unfold spec_AmountsIn.f
      rw [h1]
      simp only [Option.bind_some, if_true]
      rw [f2]
      simp only [Option.bind_some]
      rw [if_pos ⟨o2, by omega⟩, hall k (by omega)]
      rfl
    · obtain ⟨h1, h2, -⟩ := hk k (by omega)
      obtain ⟨f1, f2⟩ := hF k (by omega)
      unfold impl_AmountsIn.f srch4.f
      rw [h2, f1, if_pos o2]
      simp only [Option.bind_some, if_true]
      have hz := ami_l0 o2 (by omega) a b c d tap (fun e he => ws_in J (R.val e he)) q.length 0 [] (by omega) (by simp; omega) k (by omega)
      rw [show ((0 : Nat) : Int) = 0 from rfl, List.drop_zero, List.nil_append] at hz
      rw [hz]
      have hal := AMT_len o2 q
      have hb1' : 0 < l.length * q.length := Nat.mul_pos (by omega) (by omega)
      have hb2' : l.length * q.length ≤ 4 * 5000 := Nat.mul_le_mul o2 (by omega)
      unfold sortC.f
      rw [if_pos ⟨by omega, by omega⟩, heq]
      rfl

end Go.Proofs.Yteciomagemjjaaa.J
