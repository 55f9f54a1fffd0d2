/- The program's WayToAmount. -/
import Derived.Test.YteciomagemjjaaaJx3
import Derived.Test.YteciomagemjjaaaLWayJ
import Derived.Test.YteciomagemjjaaaLHasJ
namespace Go.Proofs.Yteciomagemjjaaa.J
open Go.RowKit Go.Proofs.YteciomagemjjaaaW.PrintWords Go.Proofs.YteciomagemjjaaaW.PrintLast Go.Proofs.YteciomagemjjaaaW.PrintMore
attribute [local go_sem] zna zka zra zsa zga zha zla zma   -- for this text's walks alone
set_option linter.unusedVariables false
set_option linter.unusedSimpArgs false
/-! ### impl_WayToAmount_1: function 70 -/
def impl_WayToAmount_1.f (k : Nat) (a0_0 : Int) (a0_1 : Int) (a0_2 : Int) (a0_3 : Int) (l1_0 : List Int) (a1_1 : Int) (a1_2 : Int) (a1_3 : Int) (a1_4 : Int) (a1_5 : Bool) (a2_0 : Int) : Option (Bool) := (impl_Puzzle_hasAmount.f k l1_0 a1_1 a1_2 a1_3 a1_4 a1_5 a0_0 a0_1 a0_2 a0_3 a2_0).bind fun t178 => (some t178)
set_option maxHeartbeats 8000000 in
set_option maxRecDepth 100000 in
theorem impl_WayToAmount_1.calls (k : Nat) (a0_0 : Int) (a0_1 : Int) (a0_2 : Int) (a0_3 : Int) (g1 : Nat) (A1_0 : Option Addr) (c1_0 : Nat) (l1_0 : List Int) (a1_1 : Int) (a1_2 : Int) (a1_3 : Int) (a1_4 : Int) (a1_5 : Bool) (g2 : Nat) (a2_0 : Int) (r : Bool) (w : World) (hb1 : w.heap[g1]? = some (.cells #[.slice A1_0 l1_0.length c1_0, .int .i16 a1_1, .int .i16 a1_2, .int .i16 a1_3, .int .i16 a1_4, .bool a1_5] 29 (0, 0))) (hr1_0 : Kd.C (Kd.int .i16) w A1_0 l1_0.length l1_0) (hc1_0 : l1_0.length ≤ c1_0) (hb2 : w.heap[g2]? = some (.cells #[.int .i64 a2_0] 2 (0, 0))) (h : impl_WayToAmount_1.f k a0_0 a0_1 a0_2 a0_3 l1_0 a1_1 a1_2 a1_3 a1_4 a1_5 a2_0 = some r) :
  Calls Try.prog 70 #[.agg #[.int .i16 a0_0, .int .i16 a0_1, .int .i16 a0_2, .int .i16 a0_3], .pointer (some ⟨g1, 0, none⟩), .pointer (some ⟨g2, 0, none⟩)] w fun e w' => e = .returned (.bool r) ∧ Below w.heap.size w w' := by
 have hu27 := Try.underlying27
 have hu29 := Try.underlying29
 have HR1_0 := za.mk hr1_0
 have HC1_0 := za.mk hc1_0
 clear hr1_0 hc1_0
 have BK1 := za.mk hb1
 clear hb1
 have BK2 := za.mk hb2
 clear hb2
 have HB := za.mk (Below.refl w.heap.size w)
 have H : ((impl_Puzzle_hasAmount.f k l1_0 a1_1 a1_2 a1_3 a1_4 a1_5 a0_0 a0_1 a0_2 a0_3 a2_0).bind fun t178 => (some t178)) = some r := h
 clear h
 replace H := Option.bind_eq_some_iff.mp H
 obtain ⟨t178, A40, H⟩ := H
 replace H : (some t178) = some r := H
 have A4 := za.mk A40
 clear A40
 obtain rfl := Option.some.inj H
 go_enter Try.func70, Try.ntmps70
 go_wp2_with (first | ((with_reducible refine zu (N := 3) rfl ?_); refine bx (N := 3) #[.int .i16 a0_0, .int .i16 a0_1, .int .i16 a0_2, .int .i16 a0_3] 27 rfl ?_; intro gb177 hg w5 hbox hb; have BK177 := za.mk hbox; have GW177 := gB hg; have GE177 := gB hg; have NB1_177 := nK hg BK1; have NB177_1 := za.mk (nK hg BK1).out.symm; have NB2_177 := nK hg BK2; have NB177_2 := za.mk (nK hg BK2).out.symm; replace BK1 := dK BK1 hb; replace BK2 := dK BK2 hb; replace HB := za.mk (zi sB hb); clear hb hbox hg; have hnb6 := NB1_177.out; have hnc6 := NB177_1.out; obtain ⟨hcz7_0, hcz7_1, hcz7_2, hcz7_3, hcz7_4, hcz7_5⟩ := xc6 BK1; obtain ⟨hfz7_0, hfz7_1, hfz7_2, hfz7_3, hfz7_4, hfz7_5⟩ := xf6 BK1; have hnb8 := NB177_2.out; have hnc8 := NB2_177.out; obtain ⟨hcz9_0, hcz9_1, hcz9_2, hcz9_3⟩ := xc4 BK177; obtain ⟨hfz9_0, hfz9_1, hfz9_2, hfz9_3⟩ := xf4 BK177; have hcz10_0 := xc1 BK2; have hfz10_0 := xf1 BK2) | ((with_reducible refine zl (f := 71) rfl ?_); refine gz (some 8) Try.func71 #[.agg #[.slice A1_0 l1_0.length c1_0, .int .i16 a1_1, .int .i16 a1_2, .int .i16 a1_3, .int .i16 a1_4, .bool a1_5], .agg #[.int .i16 a0_0, .int .i16 a0_1, .int .i16 a0_2, .int .i16 a0_3], .int .i64 a2_0] rfl rfl ?_; (with_reducible refine (impl_Puzzle_hasAmount.calls k _ _ l1_0 a1_1 a1_2 a1_3 a1_4 a1_5 a0_0 a0_1 a0_2 a0_3 a2_0 t178 _ ?side1 ?side2 A4.out).mono ?_); (case side1 => exact uC HR1_0 HB); (case side2 => exact HC1_0.out); rintro e w11 ⟨rfl, hb⟩; refine ⟨_, rfl, ?_⟩; replace BK1 := dK BK1 hb; replace BK2 := dK BK2 hb; replace BK177 := dK BK177 hb; replace HB := za.mk (zi sB hb); try clear hb))
 go_ret
 exact ⟨by first | rfl | (simp [zj, zk] <;> rfl) | (simp [*, zj, zk] <;> rfl), sB⟩

/-- Is so much in a jug of this water? -/
def pA (l : List Int) (n : Int) (x : S27) : Bool := ([x.f0, x.f1, x.f2, x.f3].take l.length).any fun v => wrap64 v == n
theorem idxA_l0 (y : List Int) (n : Int) (hy : y.length ≤ 4) (d : Nat) : ∀ (j : Nat), j + d = y.length → ∀ k, d < k →
    ((∃ i : Int, 0 ≤ i ∧ slices_IndexFunc_int16_int16_102.l0 k y (y.length : Int) (j : Int) n = some i) ∧ ((y.drop j).any fun v => wrap64 v == n) = true) ∨ (slices_IndexFunc_int16_int16_102.l0 k y (y.length : Int) (j : Int) n = some (-1) ∧ ((y.drop j).any fun v => wrap64 v == n) = false) := by
  induction d with
  | zero =>
    intro j hj k hk
    obtain ⟨k, rfl⟩ : ∃ m, k = m + 1 := ⟨k - 1, by omega⟩
    have n1 : ¬ ((j : Int) < (y.length : Int)) := by omega
    right
    simp only [slices_IndexFunc_int16_int16_102.l0]
    rw [if_neg n1, List.drop_eq_nil_of_le (by omega)]
    exact ⟨rfl, rfl⟩
  | succ d ih =>
    intro j hj k hk
    obtain ⟨k, rfl⟩ : ∃ m, k = m + 1 := ⟨k - 1, by omega⟩
    have p1 : (j : Int) < (y.length : Int) := by omega
    have p0 : 0 ≤ (j : Int) := by omega
    have w2 : wrap64 ((j : Int) + 1) = ((j + 1 : Nat) : Int) := by unfold wrap64; omega
    have dr : y.drop j = rd y (j : Int) :: y.drop (j + 1) := by
      rw [List.drop_eq_getElem_cons (by omega)]
      unfold rd
      simp [List.getD_eq_getElem?_getD, List.getElem?_eq_getElem (show j < y.length by omega)]
    rw [dr, List.any_cons]
    simp only [slices_IndexFunc_int16_int16_102.l0]
    rw [if_pos p1, if_pos p0, if_pos p1, w2]
    unfold impl_Puzzle_hasAmount_1.f
    simp only [Option.bind_some]
    by_cases c : (wrap64 (rd y (j : Int)) == n) = true
    · rw [if_pos c, c]
      exact Or.inl ⟨⟨_, p0, rfl⟩, rfl⟩
    · rw [if_neg c, Bool.eq_false_iff.mpr c, Bool.false_or]
      exact ih (j + 1) (by omega) k (by omega)
theorem hasA_f (l : List Int) (hl : l.length ≤ 4) (n : Int) (a b c d : Int) (tap : Bool) (k : Nat) (hk : 10 < k) (x : S27) : impl_WayToAmount_1.f k x.f0 x.f1 x.f2 x.f3 l a b c d tap n = some (pA l n x) := by
  have hy : ([x.f0, x.f1, x.f2, x.f3].take l.length).length ≤ 4 := by rw [List.length_take]; exact Nat.min_le_right _ _
  unfold impl_WayToAmount_1.f impl_Puzzle_hasAmount.f hasA.f pA
  rw [if_pos (show l.length ≤ [x.f0, x.f1, x.f2, x.f3].length from hl)]
  unfold slices_ContainsFunc_int16_int16_102.f slices_IndexFunc_int16_int16_102.f
  have h := idxA_l0 _ n hy _ 0 (Nat.zero_add _) k (by omega)
  rw [show ((0 : Nat) : Int) = 0 from rfl, List.drop_zero] at h
  rcases h with ⟨⟨i, h0, h1⟩, h2⟩ | ⟨h1, h2⟩
  · rw [h1, h2]
    simp only [Option.bind_some]
    rw [decide_eq_true h0]
  · rw [h1, h2]
    rfl
def wayA.f (k : Nat) (l0_0 : List Int) (a0_1 : Int) (a0_2 : Int) (a0_3 : Int) (a0_4 : Int) (a0_5 : Bool) (n : Int) : Option (List S80 × Int) := if l0_0.length ≤ 4 ∧ 10 < k then impl_Puzzle_wayTo.f k l0_0 a0_1 a0_2 a0_3 a0_4 a0_5 (pA l0_0 n) else none
theorem wayA_some {k : Nat} {l : List Int} {a b c d n : Int} {tap : Bool} {r : List S80 × Int} (h : wayA.f k l a b c d tap n = some r) : (l.length ≤ 4 ∧ 10 < k) ∧ impl_Puzzle_wayTo.f k l a b c d tap (pA l n) = some r := by
  unfold wayA.f at h
  split at h
  · rename_i hc
    exact ⟨hc, h⟩
  · cases h
set_option maxHeartbeats 8000000 in
set_option maxRecDepth 100000 in
theorem lit70 (k : Nat) (g3 g1 g2 : Nat) (A : Option Addr) (c0 : Nat) (l : List Int) (a b c d : Int) (tap : Bool) (n : Int) (w : World) (h3 : w.heap[g3]? = some (.cells #[.func (.func 70) #[] #[.pointer (some ⟨g1, 0, none⟩), .pointer (some ⟨g2, 0, none⟩)]] 97 (0, 0))) (hb1 : w.heap[g1]? = some (.cells #[.slice A l.length c0, .int .i16 a, .int .i16 b, .int .i16 c, .int .i16 d, .bool tap] 29 (0, 0))) (hr : Kd.C (Kd.int .i16) w A l.length l) (hc : l.length ≤ c0) (hb2 : w.heap[g2]? = some (.cells #[.int .i64 n] 2 (0, 0))) (hf : l.length ≤ 4 ∧ 10 < k) : Tells (pA l n) g3 w := by
  intro x W hB
  have K3 := za.mk (zaa h3 hB)
  have hc3 : W.cell? ⟨g3, 0, none⟩ = some (.func (.func 70) #[] #[.pointer (some ⟨g1, 0, none⟩), .pointer (some ⟨g2, 0, none⟩)]) := xc1 K3
  have K1 := za.mk (zaa hb1 hB)
  have K2 := za.mk (zaa hb2 hB)
  have HC := za.mk (Kd.C_below hr hB)
  have HL := za.mk hc
  have HF := za.mk (hasA_f l hf.1 n a b c d tap k hf.2 x.f0)
  clear h3 hb1 hr hb2 hB hc hf
  unfold v82
  have hu82 := Try.underlying82
  go_enter Try.func99, Try.ntmps99
  go_wp2_with (first
    | ((with_reducible refine zu (N := 2) rfl ?_); refine bx (N := 2) #[.int .i16 x.f0.f0, .int .i16 x.f0.f1, .int .i16 x.f0.f2, .int .i16 x.f0.f3, .int .i64 x.f1, .int .i8 x.f2.f0, .int .i8 x.f2.f1, .int .i8 x.f2.f2, .int .i64 x.f3] 82 rfl ?_; intro g4 hg w1 hbox hb
       replace K3 := dK K3 hb
       replace K1 := dK K1 hb
       replace K2 := dK K2 hb
       have c3 := xc1 K3
       have KB := za.mk hbox
       obtain ⟨b0, b1, b2, b3, b4, b5, b6, b7, b8⟩ := xc9 KB
       replace HC := za.mk (Kd.C_below HC.out hb)
       have HB1 := za.mk hb
       clear hg hb hbox hc3)
    | (go_at_call 70
       (with_reducible refine (impl_WayToAmount_1.calls k x.f0.f0 x.f0.f1 x.f0.f2 x.f0.f3 g1 A c0 l a b c d tap g2 n (pA l n x.f0) _ (uK K1) ?hr HL.out (uK K2) HF.out).mono ?_)
       (case hr => repeat (first | exact HC.out | (with_reducible refine Kd.C_alloc ?_ _) | (with_reducible refine Kd.C_drewN ?_ _) | (with_reducible refine Kd.C_drew ?_)))
       rintro e w2 ⟨rfl, hb2⟩))
  go_ret
  exact ⟨rfl, zi (by repeat (first | exact HB1.out | apply zy | apply zm | apply zv)) hb2⟩
/-! ### impl_WayToAmount: function 24 -/
def impl_WayToAmount.f (k : Nat) (l0_0 : List Int) (a0_1 : Int) (a0_2 : Int) (a0_3 : Int) (a0_4 : Int) (a0_5 : Bool) (a1 : Int) : Option ((List (S80)) × Int) := (impl_ValidPuzzle.f k l0_0 a0_1 a0_2 a0_3 a0_4 a0_5).bind fun t181 => (if t181 = true then ((impl_within.f a1 0 60).bind fun t182 => (if t182 = true then ((wayA.f k l0_0 a0_1 a0_2 a0_3 a0_4 a0_5 a1).bind fun bt183 => (some (bt183.1, bt183.2))) else (some (([] : List (S80)), 2)))) else (some (([] : List (S80)), 1)))
set_option maxHeartbeats 8000000 in
set_option maxRecDepth 100000 in
theorem impl_WayToAmount.calls (k : Nat) (A0_0 : Option Addr) (c0_0 : Nat) (l0_0 : List Int) (a0_1 : Int) (a0_2 : Int) (a0_3 : Int) (a0_4 : Int) (a0_5 : Bool) (a1 : Int) (r1 : List (S80)) (r2 : Int) (w : World) (hr0_0 : Kd.C (Kd.int .i16) w A0_0 l0_0.length l0_0) (hc0_0 : l0_0.length ≤ c0_0) (h : impl_WayToAmount.f k l0_0 a0_1 a0_2 a0_3 a0_4 a0_5 a1 = some (r1, r2)) :
  Calls Try.prog 24 #[.agg #[.slice A0_0 l0_0.length c0_0, .int .i16 a0_1, .int .i16 a0_2, .int .i16 a0_3, .int .i16 a0_4, .bool a0_5], .int .i64 a1] w fun e w' => ∃ v0_ : Value, e = .returned (.tuple #[v0_, .int .i64 r2]) ∧ Kd.R k80 80 w' w.heap.size (fun _ => True) v0_ r1 ∧ Below w.heap.size w w' := by
 have hu29 := Try.underlying29
 have HR0_0 := za.mk hr0_0
 have HC0_0 := za.mk hc0_0
 clear hr0_0 hc0_0
 have HB := za.mk (Below.refl w.heap.size w)
 have H : ((impl_ValidPuzzle.f k l0_0 a0_1 a0_2 a0_3 a0_4 a0_5).bind fun t181 => (if t181 = true then ((impl_within.f a1 0 60).bind fun t182 => (if t182 = true then ((wayA.f k l0_0 a0_1 a0_2 a0_3 a0_4 a0_5 a1).bind fun bt183 => (some (bt183.1, bt183.2))) else (some (([] : List (S80)), 2)))) else (some (([] : List (S80)), 1)))) = some (r1, r2) := h
 clear h
 replace H := Option.bind_eq_some_iff.mp H
 obtain ⟨t181, A30, H⟩ := H
 replace H : (if t181 = true then ((impl_within.f a1 0 60).bind fun t182 => (if t182 = true then ((wayA.f k l0_0 a0_1 a0_2 a0_3 a0_4 a0_5 a1).bind fun bt183 => (some (bt183.1, bt183.2))) else (some (([] : List (S80)), 2)))) else (some (([] : List (S80)), 1))) = some (r1, r2) := H
 have A3 := za.mk A30
 clear A30
 by_cases c4 : t181 = true
 ·subst c4
  have H1 : ((impl_within.f a1 0 60).bind fun t182 => (if t182 = true then ((wayA.f k l0_0 a0_1 a0_2 a0_3 a0_4 a0_5 a1).bind fun bt183 => (some (bt183.1, bt183.2))) else (some (([] : List (S80)), 2)))) = some (r1, r2) := by rw [if_pos rfl] at H; exact H
  clear H
  have H := H1
  clear H1
  replace H := Option.bind_eq_some_iff.mp H
  obtain ⟨t182, A50, H⟩ := H
  replace H : (if t182 = true then ((wayA.f k l0_0 a0_1 a0_2 a0_3 a0_4 a0_5 a1).bind fun bt183 => (some (bt183.1, bt183.2))) else (some (([] : List (S80)), 2))) = some (r1, r2) := H
  have A5 := za.mk A50
  clear A50
  by_cases c6 : t182 = true
  ·subst c6
   have H1 : ((wayA.f k l0_0 a0_1 a0_2 a0_3 a0_4 a0_5 a1).bind fun bt183 => (some (bt183.1, bt183.2))) = some (r1, r2) := by rw [if_pos rfl] at H; exact H
   clear H
   have H := H1
   clear H1
   replace H := Option.bind_eq_some_iff.mp H
   obtain ⟨⟨t183, t186⟩, A70, H⟩ := H
   replace H : (some (t183, t186)) = some (r1, r2) := H
   have A7 := za.mk A70
   clear A70
   simp only [Option.some.injEq, Prod.mk.injEq] at H
   obtain ⟨rfl, rfl⟩ := H
   go_enter Try.func24, Try.ntmps24
   go_wp2_with (first | ((with_reducible refine zu (N := 2) rfl ?_); refine bx (N := 2) #[.slice A0_0 l0_0.length c0_0, .int .i16 a0_1, .int .i16 a0_2, .int .i16 a0_3, .int .i16 a0_4, .bool a0_5] 29 rfl ?_; intro gb179 hg w8 hbox hb; have BK179 := za.mk hbox; have GW179 := gB hg; have GE179 := gB hg; replace HB := za.mk (zi sB hb); clear hb hbox hg) | ((with_reducible refine zu (N := 3) rfl ?_); refine bx (N := 3) #[.int .i64 a1] 2 rfl ?_; intro gb180 hg w9 hbox hb; have BK180 := za.mk hbox; have GW180 := gB hg; have GE180 := gB hg; have NB179_180 := nK hg BK179; have NB180_179 := za.mk (nK hg BK179).out.symm; replace BK179 := dK BK179 hb; replace HB := za.mk (zi sB hb); clear hb hbox hg; have hnb10 := NB179_180.out; have hnc10 := NB180_179.out; obtain ⟨hcz11_0, hcz11_1, hcz11_2, hcz11_3, hcz11_4, hcz11_5⟩ := xc6 BK179; obtain ⟨hfz11_0, hfz11_1, hfz11_2, hfz11_3, hfz11_4, hfz11_5⟩ := xf6 BK179) | ((with_reducible refine zl (f := 52) rfl ?_); refine gz (some 8) Try.func52 #[.agg #[.slice A0_0 l0_0.length c0_0, .int .i16 a0_1, .int .i16 a0_2, .int .i16 a0_3, .int .i16 a0_4, .bool a0_5]] rfl rfl ?_; (with_reducible refine (impl_ValidPuzzle.calls k _ _ l0_0 a0_1 a0_2 a0_3 a0_4 a0_5 true _ ?side1 ?side2 A3.out).mono ?_); (case side1 => exact uC HR0_0 HB); (case side2 => exact HC0_0.out); rintro e w12 ⟨rfl, hb⟩; refine ⟨_, rfl, ?_⟩; replace BK179 := dK BK179 hb; replace BK180 := dK BK180 hb; replace HB := za.mk (zi sB hb); try clear hb; have hcz13_0 := xc1 BK180; have hfz13_0 := xf1 BK180) | ((with_reducible refine zl (f := 69) rfl ?_); refine gz (some 12) Try.func69 #[.int .i64 a1, .int .i64 0, .int .i64 60] rfl rfl ?_; (with_reducible refine (impl_within.calls a1 0 60 true _ A5.out).mono ?_); rintro e w' ⟨rfl, ⟨nd, rfl⟩⟩; refine ⟨_, rfl, ?_⟩; obtain ⟨hcz14_0, hcz14_1, hcz14_2, hcz14_3, hcz14_4, hcz14_5⟩ := xc6 BK179; obtain ⟨hfz14_0, hfz14_1, hfz14_2, hfz14_3, hfz14_4, hfz14_5⟩ := xf6 BK179) | ((with_reducible refine zl (f := 65) rfl ?_); refine gz (some 16) Try.func65 #[.agg #[.slice A0_0 l0_0.length c0_0, .int .i16 a0_1, .int .i16 a0_2, .int .i16 a0_3, .int .i16 a0_4, .bool a0_5], .func (.func 70) #[] #[.pointer (some ⟨gb179, 0, none⟩), .pointer (some ⟨gb180, 0, none⟩)]] rfl rfl ?_; (with_reducible refine (impl_Puzzle_wayTo.calls k _ _ l0_0 a0_1 a0_2 a0_3 a0_4 a0_5 (pA l0_0 a1) 70 #[.pointer (some ⟨gb179, 0, none⟩), .pointer (some ⟨gb180, 0, none⟩)] t183 t186 _ ?side1 ?side2 ?side3 (wayA_some A7.out).2).mono ?_); (case side3 => exact fun g3 W hB_ h3_ => lit70 k g3 gb179 gb180 A0_0 c0_0 l0_0 a0_1 a0_2 a0_3 a0_4 a0_5 a1 W h3_ (zaa (uK BK179) hB_) (Kd.C_below (uC HR0_0 HB) hB_) HC0_0.out (zaa (uK BK180) hB_) (wayA_some A7.out).1); (case side1 => repeat (first | exact (Kd.C_below HR0_0.out sB) | (with_reducible refine Kd.C_alloc ?_ _) | (with_reducible refine Kd.C_drewN ?_ _) | (with_reducible refine Kd.C_drew ?_))); (case side2 => exact HC0_0.out); rintro e w15 ⟨v184, rfl, ho0, hb⟩; refine ⟨_, rfl, ?_⟩; have HO185 := za.mk (Kd.R_lower ho0 (zz sB)); replace BK179 := dK BK179 hb; replace BK180 := dK BK180 hb; replace HB := za.mk (zi sB hb); try clear hb))
   go_ret2
   exact ⟨_, by first | rfl | (simp [zj, zk] <;> rfl) | (simp [*, zj, zk] <;> rfl), by (with_reducible repeat (first | apply Kd.R_alloc | apply Kd.R_drewN | apply Kd.R_drew)); exact HO185.out, sB⟩
  ·replace c6 := Bool.eq_false_iff.mpr c6
   subst c6
   have H1 : (some (([] : List (S80)), 2)) = some (r1, r2) := by rw [if_neg (show ¬ (false = true) by decide)] at H; exact H
   clear H
   have H := H1
   clear H1
   simp only [Option.some.injEq, Prod.mk.injEq] at H
   obtain ⟨rfl, rfl⟩ := H
   go_enter Try.func24, Try.ntmps24
   go_wp2_with (first | ((with_reducible refine zu (N := 2) rfl ?_); refine bx (N := 2) #[.slice A0_0 l0_0.length c0_0, .int .i16 a0_1, .int .i16 a0_2, .int .i16 a0_3, .int .i16 a0_4, .bool a0_5] 29 rfl ?_; intro gb179 hg w16 hbox hb; have BK179 := za.mk hbox; have GW179 := gB hg; have GE179 := gB hg; replace HB := za.mk (zi sB hb); clear hb hbox hg) | ((with_reducible refine zu (N := 3) rfl ?_); refine bx (N := 3) #[.int .i64 a1] 2 rfl ?_; intro gb180 hg w17 hbox hb; have BK180 := za.mk hbox; have GW180 := gB hg; have GE180 := gB hg; have NB179_180 := nK hg BK179; have NB180_179 := za.mk (nK hg BK179).out.symm; replace BK179 := dK BK179 hb; replace HB := za.mk (zi sB hb); clear hb hbox hg; have hnb18 := NB179_180.out; have hnc18 := NB180_179.out; obtain ⟨hcz19_0, hcz19_1, hcz19_2, hcz19_3, hcz19_4, hcz19_5⟩ := xc6 BK179; obtain ⟨hfz19_0, hfz19_1, hfz19_2, hfz19_3, hfz19_4, hfz19_5⟩ := xf6 BK179) | ((with_reducible refine zl (f := 52) rfl ?_); refine gz (some 8) Try.func52 #[.agg #[.slice A0_0 l0_0.length c0_0, .int .i16 a0_1, .int .i16 a0_2, .int .i16 a0_3, .int .i16 a0_4, .bool a0_5]] rfl rfl ?_; (with_reducible refine (impl_ValidPuzzle.calls k _ _ l0_0 a0_1 a0_2 a0_3 a0_4 a0_5 true _ ?side1 ?side2 A3.out).mono ?_); (case side1 => exact uC HR0_0 HB); (case side2 => exact HC0_0.out); rintro e w20 ⟨rfl, hb⟩; refine ⟨_, rfl, ?_⟩; replace BK179 := dK BK179 hb; replace BK180 := dK BK180 hb; replace HB := za.mk (zi sB hb); try clear hb; have hcz21_0 := xc1 BK180; have hfz21_0 := xf1 BK180) | ((with_reducible refine zl (f := 69) rfl ?_); refine gz (some 12) Try.func69 #[.int .i64 a1, .int .i64 0, .int .i64 60] rfl rfl ?_; (with_reducible refine (impl_within.calls a1 0 60 false _ A5.out).mono ?_); rintro e w' ⟨rfl, ⟨nd, rfl⟩⟩; refine ⟨_, rfl, ?_⟩))
   go_ret2
   exact ⟨_, by first | rfl | (simp [zj, zk] <;> rfl) | (simp [*, zj, zk] <;> rfl), by first | exact Kd.R_nil _ _ _ _ _ | exact Kd.N_nil _ _ _ _ _ | exact Kd.V_nil _ _ _ _ _ | exact Kd.Q_nil _ _ _ _ _ | exact Kd.S_nil _ _ _ _ _, sB⟩
 ·replace c4 := Bool.eq_false_iff.mpr c4
  subst c4
  have H1 : (some (([] : List (S80)), 1)) = some (r1, r2) := by rw [if_neg (show ¬ (false = true) by decide)] at H; exact H
  clear H
  have H := H1
  clear H1
  simp only [Option.some.injEq, Prod.mk.injEq] at H
  obtain ⟨rfl, rfl⟩ := H
  go_enter Try.func24, Try.ntmps24
  go_wp2_with (first | ((with_reducible refine zu (N := 2) rfl ?_); refine bx (N := 2) #[.slice A0_0 l0_0.length c0_0, .int .i16 a0_1, .int .i16 a0_2, .int .i16 a0_3, .int .i16 a0_4, .bool a0_5] 29 rfl ?_; intro gb179 hg w22 hbox hb; have BK179 := za.mk hbox; have GW179 := gB hg; have GE179 := gB hg; replace HB := za.mk (zi sB hb); clear hb hbox hg) | ((with_reducible refine zu (N := 3) rfl ?_); refine bx (N := 3) #[.int .i64 a1] 2 rfl ?_; intro gb180 hg w23 hbox hb; have BK180 := za.mk hbox; have GW180 := gB hg; have GE180 := gB hg; have NB179_180 := nK hg BK179; have NB180_179 := za.mk (nK hg BK179).out.symm; replace BK179 := dK BK179 hb; replace HB := za.mk (zi sB hb); clear hb hbox hg; have hnb24 := NB179_180.out; have hnc24 := NB180_179.out; obtain ⟨hcz25_0, hcz25_1, hcz25_2, hcz25_3, hcz25_4, hcz25_5⟩ := xc6 BK179; obtain ⟨hfz25_0, hfz25_1, hfz25_2, hfz25_3, hfz25_4, hfz25_5⟩ := xf6 BK179) | ((with_reducible refine zl (f := 52) rfl ?_); refine gz (some 8) Try.func52 #[.agg #[.slice A0_0 l0_0.length c0_0, .int .i16 a0_1, .int .i16 a0_2, .int .i16 a0_3, .int .i16 a0_4, .bool a0_5]] rfl rfl ?_; (with_reducible refine (impl_ValidPuzzle.calls k _ _ l0_0 a0_1 a0_2 a0_3 a0_4 a0_5 false _ ?side1 ?side2 A3.out).mono ?_); (case side1 => exact uC HR0_0 HB); (case side2 => exact HC0_0.out); rintro e w26 ⟨rfl, hb⟩; refine ⟨_, rfl, ?_⟩; replace BK179 := dK BK179 hb; replace BK180 := dK BK180 hb; replace HB := za.mk (zi sB hb); try clear hb))
  go_ret2
  exact ⟨_, by first | rfl | (simp [zj, zk] <;> rfl) | (simp [*, zj, zk] <;> rfl), by first | exact Kd.R_nil _ _ _ _ _ | exact Kd.N_nil _ _ _ _ _ | exact Kd.V_nil _ _ _ _ _ | exact Kd.Q_nil _ _ _ _ _ | exact Kd.S_nil _ _ _ _ _, sB⟩
end Go.Proofs.Yteciomagemjjaaa.J
