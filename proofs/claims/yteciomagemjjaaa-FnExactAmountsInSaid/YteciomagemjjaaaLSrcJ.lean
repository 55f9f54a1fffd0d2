/- Both searches meet the same waters in the same order. -/
import Derived.Test.YteciomagemjjaaaJx12
import Derived.Test.YteciomagemjjaaaJx5
import Derived.Test.YteciomagemjjaaaLFindJ
import Derived.Test.YteciomagemjjaaaLMvsJ
import Derived.Test.YteciomagemjjaaaLSearchJ
namespace Go.Proofs.Yteciomagemjjaaa.J
open Go.RowKit Go.Proofs.YteciomagemjjaaaW.PrintWords Go.Proofs.YteciomagemjjaaaW.PrintLast Go.Proofs.YteciomagemjjaaaW.PrintMore
set_option linter.unusedVariables false
set_option linter.unusedSimpArgs false

theorem inQ_iff (q : List S82) (x : S27) : inQ q x = true ↔ ∃ e ∈ q, e.f0 = x := by
  unfold inQ
  rw [List.any_eq_true]
  constructor
  · rintro ⟨e, he, h⟩
    have h := of_decide_eq_true h
    refine ⟨e, he, ?_⟩
    obtain ⟨⟨y0, y1, y2, y3⟩, e1, e2, e3⟩ := e
    obtain ⟨x0, x1, x2, x3⟩ := x
    obtain ⟨h0, h1, h2, h3⟩ := h
    dsimp only at h0 h1 h2 h3 ⊢
    rw [h0, h1, h2, h3]
  · rintro ⟨e, he, rfl⟩
    exact ⟨e, he, decide_eq_true ⟨rfl, rfl, rfl, rfl⟩⟩
theorem zub (t : List Int) (i v : Int) (h0 : 0 ≤ i) (h : i < (t.length : Int)) : rd (t.set i.toNat v) i = v := by
  unfold rd
  rw [List.getD_eq_getElem?_getD, List.getElem?_set_self (by omega)]
  rfl
theorem zbc (t : List Int) (i j v : Int) (h0 : 0 ≤ i) (h1 : 0 ≤ j) (h : i ≠ j) : rd (t.set i.toNat v) j = rd t j := by
  unfold rd
  rw [List.getD_eq_getElem?_getD, List.getD_eq_getElem?_getD, List.getElem?_set_ne (by omega)]
theorem rd80_set_self (t : List S80) (i : Int) (v : S80) (h0 : 0 ≤ i) (h : i < (t.length : Int)) : zi (t.set i.toNat v) i = v := by
  unfold zi
  rw [List.getD_eq_getElem?_getD, List.getElem?_set_self (by omega)]
  rfl
theorem rd80_set_ne (t : List S80) (i j : Int) (v : S80) (h0 : 0 ≤ i) (h1 : 0 ≤ j) (h : i ≠ j) : zi (t.set i.toNat v) j = zi t j := by
  unfold zi
  rw [List.getD_eq_getElem?_getD, List.getD_eq_getElem?_getD, List.getElem?_set_ne (by omega)]
theorem zmb (q : List S82) (x : S82) (i : Nat) (h : i < q.length) : zl (q ++ [x]) (i : Int) = zl q (i : Int) := by
  unfold zl
  rw [Int.toNat_natCast, List.getD_eq_getElem?_getD, List.getD_eq_getElem?_getD, List.getElem?_append_left h]
theorem zbe (q : List S82) (x : S82) : zl (q ++ [x]) (q.length : Int) = x := by
  unfold zl
  rw [Int.toNat_natCast, List.getD_eq_getElem?_getD, List.getElem?_append_right (Nat.le_refl _), Nat.sub_self]
  rfl
theorem zdd (q : List S82) (i : Nat) (h : i < q.length) : zl q (i : Int) ∈ q := by
  unfold zl
  rw [Int.toNat_natCast, List.getD_eq_getElem?_getD, List.getElem?_eq_getElem h, Option.getD_some]
  exact List.getElem_mem h
theorem rd80_mem (q : List S80) (i : Nat) (h : i < q.length) : zi q (i : Int) ∈ q := by
  unfold zi
  rw [Int.toNat_natCast, List.getD_eq_getElem?_getD, List.getElem?_eq_getElem h, Option.getD_some]
  exact List.getElem_mem h
theorem drop80 (q : List S80) (i : Nat) (h : i < q.length) : q.drop i = zi q (i : Int) :: q.drop (i + 1) := by
  unfold zi
  rw [Int.toNat_natCast, List.getD_eq_getElem?_getD, List.getElem?_eq_getElem h, Option.getD_some]
  exact List.drop_eq_getElem_cons h
/-- The numbers of the waters met. -/
def ords (l : List Int) (q : List S82) : List Int := q.map fun e => ix l e.f0
theorem ords_rd (l : List Int) (q : List S82) (i : Nat) (h : i < q.length) : rd (ords l q) (i : Int) = ix l (zl q (i : Int)).f0 := by
  unfold rd zl ords
  rw [Int.toNat_natCast, List.getD_eq_getElem?_getD, List.getD_eq_getElem?_getD, List.getElem?_map, List.getElem?_eq_getElem h]
  rfl
theorem ords_push (l : List Int) (q : List S82) (x : S82) : ords l (q ++ [x]) = ords l q ++ [ix l x.f0] := by simp [ords]
theorem len_le : ∀ (P : Nat) (L : List Int), L.Nodup → (∀ x ∈ L, 0 ≤ x ∧ x < (P : Int)) → L.length ≤ P := by
  intro P
  induction P with
  | zero =>
    intro L _ h
    cases L with
    | nil => exact Nat.le_refl _
    | cons x xs => have := h x List.mem_cons_self; omega
  | succ P ih =>
    intro L hn h
    by_cases hm : (P : Int) ∈ L
    · have h1 := ih (L.erase (P : Int)) (hn.erase _) (fun x hx => by
        have hx2 := (hn.mem_erase_iff).mp hx
        have := h x hx2.2
        have h3 := hx2.1
        omega)
      rw [List.length_erase_of_mem hm] at h1
      omega
    · have := ih L hn (fun x hx => by
        have h2 := h x hx
        have h3 : x ≠ (P : Int) := fun e => hm (e ▸ hx)
        omega)
      omega
/-- The queue of the one side and the tables of the other. -/
structure Rel (l : List Int) (P : Nat) (s : S27) (q : List S82) (t f : List Int) (b : List S80) : Prop where
  tl : t.length = P
  fl : f.length = P
  bl : b.length = P
  val : ∀ e ∈ q, watS l e.f0
  tab : ∀ e ∈ q, rd t (ix l e.f0) = e.f3
  pos : ∀ e ∈ q, 0 ≤ e.f3 ∧ e.f3 < (q.length : Int)
  neg : ∀ j : Nat, j < P → rd t (j : Int) = -1 ∨ ∃ e ∈ q, ix l e.f0 = (j : Int)
  nod : (ords l q).Nodup
  hd : 0 < q.length ∧ zl q 0 = ⟨s, -1, ⟨0, 0, 0⟩, 0⟩
  par : ∀ i : Nat, 0 < i → i < q.length → ∃ p : Nat, p < i ∧ (zl q (i : Int)).f1 = (p : Int) ∧ rd f (ix l (zl q (i : Int)).f0) = ix l (zl q (p : Int)).f0 ∧ zi b (ix l (zl q (i : Int)).f0) = (zl q (i : Int)).f2 ∧ (zl q (i : Int)).f3 = (zl q (p : Int)).f3 + 1
section
variable {l : List Int} {P : Nat} {s : S27} {q : List S82} {t f : List Int} {b : List S80}
theorem Rel.len (R : Rel l P s q t f b) (J : Jugs l) (hP : (P : Int) = PR l) : q.length ≤ P := by
  have := len_le P (ords l q) R.nod (fun x hx => by
    obtain ⟨e, he, rfl⟩ := List.mem_map.mp hx
    have := ix_lt J (R.val e he)
    omega)
  simpa [ords] using this
theorem Rel.seen (R : Rel l P s q t f b) (J : Jugs l) (hP : (P : Int) = PR l) {x : S27} (hx : watS l x) : rd t (ix l x) ≥ 0 ↔ inQ q x = true := by
  have h1 := ix_lt J hx
  rw [inQ_iff]
  constructor
  · intro h
    obtain ⟨n, hn⟩ := Int.eq_ofNat_of_zero_le h1.1
    rcases R.neg n (by omega) with h2 | ⟨e, he, h2⟩
    · rw [hn] at h
      omega
    · exact ⟨e, he, ix_inj J (R.val e he) hx (by rw [h2, hn])⟩
  · rintro ⟨e, he, rfl⟩
    rw [R.tab e he]
    exact (R.pos e he).1
theorem Rel.push (R : Rel l P s q t f b) (J : Jugs l) (hP : (P : Int) = PR l) (i : Nat) (hi : i < q.length) (x : S27) (hx : watS l x) (hnew : ¬ inQ q x = true) (m : S80) :
    Rel l P s (q ++ [⟨x, (i : Int), m, (zl q (i : Int)).f3 + 1⟩]) (t.set (ix l x).toNat ((zl q (i : Int)).f3 + 1)) (f.set (ix l x).toNat (ix l (zl q (i : Int)).f0)) (b.set (ix l x).toNat m) := by
  have h1 := ix_lt J hx
  have hne : ∀ e ∈ q, ix l x ≠ ix l e.f0 := fun e he h => hnew ((inQ_iff q x).mpr ⟨e, he, ix_inj J (R.val e he) hx h.symm⟩)
  have h0 : ∀ e ∈ q, 0 ≤ ix l e.f0 := fun e he => (ix_lt J (R.val e he)).1
  have hp := R.pos _ (zdd q i hi)
  have tl := R.tl
  have fl := R.fl
  have bl := R.bl
  refine ⟨by rw [List.length_set]; exact tl, by rw [List.length_set]; exact fl, by rw [List.length_set]; exact bl, ?_, ?_, ?_, ?_, ?_, ?_, ?_⟩
  · intro e he
    rcases List.mem_append.mp he with he | he
    · exact R.val e he
    · rw [List.mem_singleton.mp he]
      exact hx
  · intro e he
    rcases List.mem_append.mp he with he | he
    · rw [zbc t _ _ _ h1.1 (h0 e he) (hne e he)]
      exact R.tab e he
    · rw [List.mem_singleton.mp he]
      exact zub t _ _ h1.1 (by omega)
  · intro e he
    rw [List.length_append, List.length_singleton]
    rcases List.mem_append.mp he with he | he
    · have := R.pos e he
      omega
    · rw [List.mem_singleton.mp he]
      dsimp only
      omega
  · intro j hj
    by_cases c : ix l x = (j : Int)
    · exact Or.inr ⟨_, List.mem_append_right _ List.mem_cons_self, c⟩
    · rw [zbc t _ _ _ h1.1 (by omega) c]
      rcases R.neg j hj with h | ⟨e, he, h⟩
      · exact Or.inl h
      · exact Or.inr ⟨e, List.mem_append_left _ he, h⟩
  · rw [ords_push, List.nodup_append]
    refine ⟨R.nod, by simp, fun a ha c hc => ?_⟩
    obtain ⟨e, he, rfl⟩ := List.mem_map.mp ha
    rw [List.mem_singleton.mp hc]
    exact (hne e he).symm
  · refine ⟨by rw [List.length_append]; have := R.hd.1; omega, ?_⟩
    have := zmb q ⟨x, (i : Int), m, (zl q (i : Int)).f3 + 1⟩ 0 R.hd.1
    exact this.trans R.hd.2
  · intro j h2 h3
    rw [List.length_append, List.length_singleton] at h3
    by_cases c : j < q.length
    · obtain ⟨p, p1, p2, p3, p4, p5⟩ := R.par j h2 c
      have hm := zdd q j c
      refine ⟨p, p1, ?_, ?_, ?_, ?_⟩
      · rw [zmb q _ j c]; exact p2
      · rw [zmb q _ j c, zmb q _ p (by omega), zbc f _ _ _ h1.1 (h0 _ hm) (hne _ hm)]; exact p3
      · rw [zmb q _ j c, rd80_set_ne b _ _ _ h1.1 (h0 _ hm) (hne _ hm)]; exact p4
      · rw [zmb q _ j c, zmb q _ p (by omega)]; exact p5
    · have e : j = q.length := by omega
      subst e
      refine ⟨i, hi, ?_, ?_, ?_, ?_⟩
      · rw [zbe]
      · rw [zbe, zmb q _ i hi]
        exact zub f _ _ h1.1 (by omega)
      · rw [zbe]
        exact rd80_set_self b _ _ h1.1 (by omega)
      · rw [zbe, zmb q _ i hi]
end
/-- One move tried. -/
def addQ (l : List Int) (tap : Bool) (i : Int) (w : S27) (n : Int) (q : List S82) (m : S80) : List S82 :=
  if (mvI l tap w m).2 = true then (if inQ q (mvI l tap w m).1 = true then q else q ++ [⟨(mvI l tap w m).1, i, m, n + 1⟩]) else q
theorem zad (l : List Int) (tap : Bool) (i : Int) (w : S27) (n : Int) : ∀ (A : List S80) (q : List S82), (A.filter (okM l tap w)).foldl (addQ l tap i w n) q = A.foldl (addQ l tap i w n) q
  | [], _ => rfl
  | m :: A, q => by
    rw [List.filter_cons]
    by_cases h : okM l tap w m = true
    · rw [if_pos h, List.foldl_cons, List.foldl_cons]
      exact zad l tap i w n A _
    · rw [if_neg h, List.foldl_cons]
      have : addQ l tap i w n q m = q := if_neg h
      rw [this]
      exact zad l tap i w n A q
theorem addQ_len (l : List Int) (tap : Bool) (i : Int) (w : S27) (n : Int) (q : List S82) (m : S80) : (addQ l tap i w n q m).length ≤ q.length + 1 := by
  unfold addQ
  split
  · split
    · omega
    · simp
  · omega
theorem srch_l1 {l : List Int} (J : Jugs l) (a b c d : Int) (tap : Bool) (i : Nat) (e0 : S82) (hw : watS l e0.f0) (h3 : 0 ≤ e0.f3 ∧ e0.f3 < 100000) (ms : List S80) (hms : ∀ m ∈ ms, cub l.length m ∧ (mvI l tap e0.f0 m).2 = true) (hml : ms.length ≤ 1000) (B : Nat) (r : List S82) : ∀ (n j : Nat), j + n = ms.length → ∀ (q : List S82), i < q.length → zl q (i : Int) = e0 → q.length + n ≤ 100000 →
    (∀ k, B < k → impl_Puzzle_search.l0 k ((ms.drop j).foldl (addQ l tap (i : Int) e0.f0 e0.f3) q) ((i + 1 : Nat) : Int) l a b c d tap = some r) →
    ∀ k, B + n + 1 < k → impl_Puzzle_search.l1 k q i ms ms.length j l a b c d tap = some r := by
  intro n
  induction n with
  | zero =>
    intro j hj q hi he hq H k hk
    obtain ⟨k, rfl⟩ : ∃ m, k = m + 1 := ⟨k - 1, by omega⟩
    have nj : ¬ ((j : Int) < (ms.length : Int)) := by omega
    rw [List.drop_eq_nil_of_le (by omega), List.foldl_nil] at H
    simp only [impl_Puzzle_search.l1]
    rw [if_neg nj, zac (n := 100001) (by omega) (by omega)]
    exact H k (by omega)
  | succ n ih =>
    intro j hj q hi he hq H k hk
    obtain ⟨k, rfl⟩ : ∃ m, k = m + 1 := ⟨k - 1, by omega⟩
    have pj : (j : Int) < (ms.length : Int) := by omega
    have p0 : 0 ≤ (j : Int) := by omega
    have q0 : 0 ≤ (i : Int) := by omega
    have qi : (i : Int) < (q.length : Int) := by omega
    obtain ⟨m1, m2⟩ := hms _ (rd80_mem ms j (by omega))
    rw [drop80 ms j (by omega), List.foldl_cons] at H
    have hv := mvd_f J a b c d tap hw _ m1 m2
    simp only [impl_Puzzle_search.l1]
    rw [he, if_pos pj, if_pos p0, if_pos pj, if_pos q0, if_pos qi, hv]
    simp only [Option.bind_some]
    rw [zac (n := 100001) (by omega) (by omega)]
    have ew : wrap64 (e0.f3 + 1) = e0.f3 + 1 := by unfold wrap64; omega
    rw [ew]
    have ea : addQ l tap (i : Int) e0.f0 e0.f3 q (zi ms (j : Int)) = (if inQ q (mvI l tap e0.f0 (zi ms (j : Int))).1 = true then q else q ++ [⟨(mvI l tap e0.f0 (zi ms (j : Int))).1, (i : Int), zi ms (j : Int), e0.f3 + 1⟩]) := if_pos m2
    rw [ea] at H
    by_cases c1 : inQ q (mvI l tap e0.f0 (zi ms (j : Int))).1 = true
    · rw [if_pos c1] at H
      rw [if_pos c1]
      exact ih (j + 1) (by omega) q hi he (by omega) H k (by omega)
    · rw [if_neg c1] at H
      rw [if_neg c1, if_pos (by omega)]
      refine ih (j + 1) (by omega) _ (by rw [List.length_append]; omega) (by rw [zmb q _ i hi]; exact he) (by rw [List.length_append, List.length_singleton]; omega) H k (by omega)
theorem find_l2 {l : List Int} (J : Jugs l) {P : Nat} (hP : (P : Int) = PR l) (s : S27) (a b c d : Int) (tap : Bool) (i : Nat) (e0 : S82) (hw : watS l e0.f0) (A : List S80) (hA : ∀ m ∈ A, cub l.length m ∧ isM m = true) (hAl : A.length ≤ 1000) : ∀ (n j : Nat), j + n = A.length → ∀ (q : List S82) (t f : List Int) (bb : List S80), Rel l P s q t f bb → i < q.length → zl q (i : Int) = e0 →
    ∃ t' f' b', Rel l P s ((A.drop j).foldl (addQ l tap (i : Int) e0.f0 e0.f3) q) t' f' b' ∧ i < ((A.drop j).foldl (addQ l tap (i : Int) e0.f0 e0.f3) q).length ∧
      ∀ (B : Nat) (R : List Int × List Int × List S80 × List Int), (∀ k, B < k → spec_l02Find.l1 k A ((i + 1 : Nat) : Int) t' f' b' (ords l ((A.drop j).foldl (addQ l tap (i : Int) e0.f0 e0.f3) q)) l a b c d tap = some R) →
      ∀ k, B + n + 8 < k → spec_l02Find.l2 k A i (ix l e0.f0) j t f bb (ords l q) l a b c d tap e0.f0.f0 e0.f0.f1 e0.f0.f2 e0.f0.f3 = some R := by
  intro n
  induction n with
  | zero =>
    intro j hj q t f bb R hi he
    rw [List.drop_eq_nil_of_le (by omega), List.foldl_nil]
    refine ⟨t, f, bb, R, hi, fun B RR H k hk => ?_⟩
    obtain ⟨k, rfl⟩ : ∃ m, k = m + 1 := ⟨k - 1, by omega⟩
    have nj : ¬ ((j : Int) < (A.length : Int)) := by omega
    have := R.len J hP
    have := J.pr
    simp only [spec_l02Find.l2]
    rw [if_neg nj, zac (n := 100001) (by omega) (by omega)]
    exact H k (by omega)
  | succ n ih =>
    intro j hj q t f bb R hi he
    have pj : (j : Int) < (A.length : Int) := by omega
    have p0 : 0 ≤ (j : Int) := by omega
    obtain ⟨m1, m2⟩ := hA _ (rd80_mem A j (by omega))
    have hql := R.len J hP
    have hpr := J.pr
    have hmem : e0 ∈ q := he ▸ zdd q i hi
    have hpos := R.pos e0 hmem
    have htab := R.tab e0 hmem
    have hie := ix_lt J hw
    have hmv := move_f J a b c d tap hw _ m1 m2
    have hst := zke J tap hw _ m1
    rw [drop80 A j (by omega), List.foldl_cons]
    have tl := R.tl
    have fl := R.fl
    have bl := R.bl
    by_cases c1 : (mvI l tap e0.f0 (zi A (j : Int))).2 = true
    · have hx := hst.2 c1
      have hix := ix_lt J hx
      have hseen := R.seen J hP hx
      have ea : addQ l tap (i : Int) e0.f0 e0.f3 q (zi A (j : Int)) = (if inQ q (mvI l tap e0.f0 (zi A (j : Int))).1 = true then q else q ++ [⟨(mvI l tap e0.f0 (zi A (j : Int))).1, (i : Int), zi A (j : Int), e0.f3 + 1⟩]) := if_pos c1
      have step : ∀ k, 4 < k → ∀ R', spec_l02Find.l2 (k + 1) A i (ix l e0.f0) j t f bb (ords l q) l a b c d tap e0.f0.f0 e0.f0.f1 e0.f0.f2 e0.f0.f3 = R' ↔
          (if rd t (ix l (mvI l tap e0.f0 (zi A (j : Int))).1) ≥ 0 then spec_l02Find.l2 k A i (ix l e0.f0) ((j + 1 : Nat) : Int) t f bb (ords l q) l a b c d tap e0.f0.f0 e0.f0.f1 e0.f0.f2 e0.f0.f3
           else spec_l02Find.l2 k A i (ix l e0.f0) ((j + 1 : Nat) : Int) (t.set (ix l (mvI l tap e0.f0 (zi A (j : Int))).1).toNat (e0.f3 + 1)) (f.set (ix l (mvI l tap e0.f0 (zi A (j : Int))).1).toNat (ix l e0.f0)) (bb.set (ix l (mvI l tap e0.f0 (zi A (j : Int))).1).toNat (zi A (j : Int))) (ords l q ++ [ix l (mvI l tap e0.f0 (zi A (j : Int))).1]) l a b c d tap e0.f0.f0 e0.f0.f1 e0.f0.f2 e0.f0.f3) = R' := by
        intro k hk R'
        have hi2 := index_f J a b c d tap hx k hk
        rw [show IX l [(mvI l tap e0.f0 (zi A (j : Int))).1.f0, (mvI l tap e0.f0 (zi A (j : Int))).1.f1, (mvI l tap e0.f0 (zi A (j : Int))).1.f2, (mvI l tap e0.f0 (zi A (j : Int))).1.f3] = ix l (mvI l tap e0.f0 (zi A (j : Int))).1 from rfl] at hi2
        have g1 : (0 : Int) ≤ ix l (mvI l tap e0.f0 (zi A (j : Int))).1 := hix.1
        have g2 : ix l (mvI l tap e0.f0 (zi A (j : Int))).1 < (t.length : Int) := by omega
        have g3 : ix l (mvI l tap e0.f0 (zi A (j : Int))).1 < (f.length : Int) := by omega
        have g4 : ix l (mvI l tap e0.f0 (zi A (j : Int))).1 < (bb.length : Int) := by omega
        have g5 : (0 : Int) ≤ ix l e0.f0 := hie.1
        have g6 : ix l e0.f0 < (t.length : Int) := by omega
        have g7 : (ords l q).length < 17592186044416 := by simp [ords]; omega
        have ew : IntKind.i16.wrap (rd t (ix l e0.f0) + 1) = e0.f3 + 1 := by rw [htab]; exact zpc (by omega)
        simp only [spec_l02Find.l2]
        rw [if_pos pj, if_pos p0, hmv, if_pos c1]
        simp only [Option.bind_some, if_true]
        rw [hi2]
        simp only [Option.bind_some]
        rw [if_pos g1, if_pos g2, zac (n := 100001) (by omega) (by omega), ew, if_pos g5, if_pos g6, if_pos g3, if_pos g4, if_pos g7]
      rw [ea]
      by_cases c2 : inQ q (mvI l tap e0.f0 (zi A (j : Int))).1 = true
      · rw [if_pos c2]
        obtain ⟨t', f', b', R', hi', hh⟩ := ih (j + 1) (by omega) q t f bb R hi he
        refine ⟨t', f', b', R', hi', fun B RR H k hk => ?_⟩
        obtain ⟨k, rfl⟩ : ∃ m, k = m + 1 := ⟨k - 1, by omega⟩
        rw [step k (by omega), if_pos (hseen.mpr c2)]
        exact hh B RR H k (by omega)
      · rw [if_neg c2]
        have R2 := R.push J hP i hi _ hx c2 (zi A (j : Int))
        rw [he] at R2
        obtain ⟨t', f', b', R', hi', hh⟩ := ih (j + 1) (by omega) _ _ _ _ R2 (by rw [List.length_append]; omega) (by rw [zmb q _ i hi]; exact he)
        refine ⟨t', f', b', R', hi', fun B RR H k hk => ?_⟩
        obtain ⟨k, rfl⟩ : ∃ m, k = m + 1 := ⟨k - 1, by omega⟩
        rw [step k (by omega), if_neg (fun h => c2 (hseen.mp h))]
        have := hh B RR H k (by omega)
        rw [ords_push] at this
        exact this
    · have ea : addQ l tap (i : Int) e0.f0 e0.f3 q (zi A (j : Int)) = q := if_neg c1
      rw [ea]
      obtain ⟨t', f', b', R', hi', hh⟩ := ih (j + 1) (by omega) q t f bb R hi he
      refine ⟨t', f', b', R', hi', fun B RR H k hk => ?_⟩
      obtain ⟨k, rfl⟩ : ∃ m, k = m + 1 := ⟨k - 1, by omega⟩
      simp only [spec_l02Find.l2]
      rw [if_pos pj, if_pos p0, hmv, if_neg c1]
      simp only [Option.bind_some]
      rw [if_neg (by decide), zac (n := 100001) (by omega) (by omega)]
      exact hh B RR H k (by omega)
theorem ALL_len (n : Nat) (h : n ≤ 4) : (ALL n).length ≤ 48 := by
  have : n = 0 ∨ n = 1 ∨ n = 2 ∨ n = 3 ∨ n = 4 := by omega
  rcases this with h | h | h | h | h <;> rw [h] <;> decide
theorem both_l0 {l : List Int} (J : Jugs l) {P : Nat} (hP : (P : Int) = PR l) (s : S27) (a b c d : Int) (tap : Bool) : ∀ (n i : Nat) (q : List S82) (t f : List Int) (bb : List S80), Rel l P s q t f bb → i ≤ q.length → P ≤ i + n →
    ∃ qF tF fF bF, Rel l P s qF tF fF bF ∧ ∀ k, n * 200 + 300 < k → impl_Puzzle_search.l0 k q i l a b c d tap = some qF ∧ spec_l02Find.l1 k (ALL l.length) i t f bb (ords l q) l a b c d tap = some (tF, fF, bF, ords l qF) := by
  intro n
  induction n with
  | zero =>
    intro i q t f bb R hi hn
    have hql := R.len J hP
    refine ⟨q, t, f, bb, R, fun k hk => ?_⟩
    obtain ⟨k, rfl⟩ : ∃ m, k = m + 1 := ⟨k - 1, by omega⟩
    have n1 : ¬ ((i : Int) < (q.length : Int)) := by omega
    have n2 : ¬ ((i : Int) < ((ords l q).length : Int)) := by simp [ords]; omega
    simp only [impl_Puzzle_search.l0, spec_l02Find.l1]
    rw [if_neg n1, if_neg n2]
    exact ⟨rfl, rfl⟩
  | succ n ih =>
    intro i q t f bb R hi hn
    have hql := R.len J hP
    have hpr := J.pr
    by_cases c1 : i < q.length
    · have hmem := zdd q i c1
      have hw := R.val _ hmem
      have hpos := R.pos _ hmem
      have hA : ∀ m ∈ ALL l.length, cub l.length m ∧ isM m = true := fun m hm => ⟨cub_of (List.mem_filter.mp hm).1, (List.mem_filter.mp hm).2⟩
      have hAl := ALL_len l.length J.n4
      obtain ⟨t', f', b', R', hi', hh⟩ := find_l2 J hP s a b c d tap i (zl q (i : Int)) hw (ALL l.length) hA (by omega) (ALL l.length).length 0 (by omega) q t f bb R c1 rfl
      rw [List.drop_zero] at R' hi' hh
      obtain ⟨qF, tF, fF, bF, RF, hF⟩ := ih (i + 1) _ t' f' b' R' (by omega) (by omega)
      refine ⟨qF, tF, fF, bF, RF, fun k hk => ?_⟩
      obtain ⟨k, rfl⟩ : ∃ m, k = m + 1 := ⟨k - 1, by omega⟩
      have p1 : (i : Int) < (q.length : Int) := by omega
      have p2 : (i : Int) < ((ords l q).length : Int) := by simp [ords]; omega
      have p0 : 0 ≤ (i : Int) := by omega
      have fl := List.length_filter_le (okM l tap (zl q (i : Int)).f0) (ALL l.length)
      refine ⟨?_, ?_⟩
      · simp only [impl_Puzzle_search.l0]
        rw [if_pos p1, if_pos p0, moves_f l tap (zl q (i : Int)).f0 J.n4 a b c d k (by omega)]
        simp only [Option.bind_some]
        refine srch_l1 J a b c d tap i (zl q (i : Int)) hw (by omega) ((ALL l.length).filter (okM l tap (zl q (i : Int)).f0)) (fun m hm => ⟨(hA m (List.mem_filter.mp hm).1).1, (List.mem_filter.mp hm).2⟩) (by omega) (n * 200 + 300) qF ((ALL l.length).filter (okM l tap (zl q (i : Int)).f0)).length 0 (by omega) q c1 rfl (by omega) (fun k' hk' => ?_) k (by omega)
        rw [List.drop_zero, zad]
        exact (hF k' hk').1
      · simp only [spec_l02Find.l1]
        have ea := at_f J a b c d tap hw k (by omega)
        rw [if_pos p2, if_pos p0, ords_rd l q i c1]
        rw [show IX l [(zl q (i : Int)).f0.f0, (zl q (i : Int)).f0.f1, (zl q (i : Int)).f0.f2, (zl q (i : Int)).f0.f3] = ix l (zl q (i : Int)).f0 from rfl] at ea
        rw [ea]
        simp only [Option.bind_some]
        exact hh (n * 200 + 300) _ (fun k' hk' => (hF k' hk').2) k (by omega)
    · refine ⟨q, t, f, bb, R, fun k hk => ?_⟩
      obtain ⟨k, rfl⟩ : ∃ m, k = m + 1 := ⟨k - 1, by omega⟩
      have n1 : ¬ ((i : Int) < (q.length : Int)) := by omega
      have n2 : ¬ ((i : Int) < ((ords l q).length : Int)) := by simp [ords]; omega
      simp only [impl_Puzzle_search.l0, spec_l02Find.l1]
      rw [if_neg n1, if_neg n2]
      exact ⟨rfl, rfl⟩
theorem rel_start {l : List Int} (J : Jugs l) {P : Nat} (hP : (P : Int) = PR l) {s : S27} (hs : watS l s) (t f : List Int) (b : List S80) (tl : t.length = P) (fl : f.length = P) (bl : b.length = P) (ht : ∀ m : Nat, m < P → rd t (m : Int) = -1) :
    Rel l P s [⟨s, -1, ⟨0, 0, 0⟩, 0⟩] (t.set (ix l s).toNat 0) f b := by
  have h1 := ix_lt J hs
  refine ⟨by rw [List.length_set]; exact tl, fl, bl, ?_, ?_, ?_, ?_, by simp [ords], ⟨by simp, rfl⟩, ?_⟩
  · intro e he
    rw [List.mem_singleton.mp he]
    exact hs
  · intro e he
    rw [List.mem_singleton.mp he]
    exact zub t _ _ h1.1 (by omega)
  · intro e he
    rw [List.mem_singleton.mp he]
    exact ⟨Int.le_refl _, by simp⟩
  · intro j hj
    by_cases c : ix l s = (j : Int)
    · exact Or.inr ⟨_, List.mem_cons_self, c⟩
    · rw [zbc t _ _ _ h1.1 (by omega) c]
      exact Or.inl (ht j hj)
  · intro i h2 h3
    rw [List.length_singleton] at h3
    omega
theorem init_l0 {l : List Int} {P : Nat} (hP : P ≤ 100000) (f : List Int) (bb : List S80) (a b c d : Int) (tap : Bool) (n : Nat) : ∀ (j : Nat) (t : List Int), j + n = P → t.length = P → (∀ m : Nat, m < j → rd t (m : Int) = -1) →
    ∃ t', t'.length = P ∧ (∀ m : Nat, m < P → rd t' (m : Int) = -1) ∧ ∀ k, spec_l02Find.l0 (k + n) P j t f bb l a b c d tap = spec_l02Find.l0 k P P t' f bb l a b c d tap := by
  induction n with
  | zero =>
    intro j t hj tl ht
    refine ⟨t, tl, fun m hm => ht m (by omega), fun k => ?_⟩
    have : j = P := by omega
    rw [this]
    rfl
  | succ n ih =>
    intro j t hj tl ht
    obtain ⟨t', h1, h2, h3⟩ := ih (j + 1) (t.set (j : Int).toNat (-1)) (by omega) (by rw [List.length_set]; exact tl) (fun m hm => by
      by_cases c : m = j
      · subst c
        exact zub t _ _ (by omega) (by omega)
      · rw [zbc t _ _ _ (by omega) (by omega) (by omega)]
        exact ht m (by omega))
    refine ⟨t', h1, h2, fun k => ?_⟩
    rw [← h3 k, show k + (n + 1) = (k + n) + 1 from rfl]
    have p1 : (j : Int) < (P : Int) := by omega
    have p2 : (j : Int) < (t.length : Int) := by omega
    have p0 : 0 ≤ (j : Int) := by omega
    simp only [spec_l02Find.l0]
    rw [if_pos p1, if_pos p0, if_pos p2, zac (n := 100001) (by omega) (by omega)]
/-- Both searches. -/
theorem both_f {l : List Int} (J : Jugs l) (a b c d : Int) (tap : Bool) (hs : wat l a b c d) (hst : ∀ k, 10 < k → spec_l02States.f k l = some (PR l)) :
    ∃ (P : Nat) (q : List S82) (t f : List Int) (bb : List S80), (P : Int) = PR l ∧ Rel l P ⟨a, b, c, d⟩ q t f bb ∧ ∀ k, 2000000 < k → impl_Puzzle_search.f k l a b c d tap = some q ∧ spec_l02Find.f k l a b c d tap = some (t, f, bb, ords l q) := by
  have pp := PR_pos J.jg
  have hpr := J.pr
  obtain ⟨P, hP⟩ := Int.eq_ofNat_of_zero_le (show 0 ≤ PR l by omega)
  have hP' : (P : Int) = PR l := hP.symm
  have hsS : watS l (⟨a, b, c, d⟩ : S27) := hs
  have hix := ix_lt J hsS
  obtain ⟨t0, tl, ht, hk0⟩ := init_l0 (l := l) (P := P) (by omega) (List.replicate P 0) (List.replicate P z80) a b c d tap P 0 (List.replicate P 0) (by omega) (by simp) (fun m hm => by omega)
  have R := rel_start J hP' hsS t0 (List.replicate P 0) (List.replicate P z80) tl (by simp) (by simp) ht
  obtain ⟨q, t, f, bb, RF, hF⟩ := both_l0 J hP' ⟨a, b, c, d⟩ a b c d tap P 0 _ _ _ _ R (by simp) (by omega)
  refine ⟨P, q, t, f, bb, hP', RF, fun k hk => ⟨?_, ?_⟩⟩
  · unfold impl_Puzzle_search.f
    rw [if_pos (wfW_of J hsS)]
    exact (hF k (by omega)).1
  · unfold spec_l02Find.f
    rw [hst k (by omega)]
    simp only [Option.bind_some]
    rw [hP, if_pos (by omega), if_pos (by omega), if_pos (by omega), if_pos (by omega), Int.toNat_natCast]
    obtain ⟨k, rfl⟩ : ∃ m, k = (m + 1) + P := ⟨k - P - 1, by omega⟩
    have e0 := hk0 (k + 1)
    rw [show ((0 : Nat) : Int) = 0 from rfl] at e0
    rw [e0]
    have hi2 := index_f J a b c d tap hs k (by omega)
    rw [show IX l [a, b, c, d] = ix l (⟨a, b, c, d⟩ : S27) from rfl] at hi2
    have g2 : ix l (⟨a, b, c, d⟩ : S27) < (t0.length : Int) := by omega
    have npp : ¬ ((P : Int) < (P : Int)) := by omega
    simp only [spec_l02Find.l0]
    rw [if_neg npp, hi2]
    simp only [Option.bind_some]
    rw [if_pos hix.1, if_pos g2, if_pos (by decide), all_f J a b c d tap k (by omega)]
    simp only [Option.bind_some]
    exact (hF k (by omega)).2

end Go.Proofs.Yteciomagemjjaaa.J
