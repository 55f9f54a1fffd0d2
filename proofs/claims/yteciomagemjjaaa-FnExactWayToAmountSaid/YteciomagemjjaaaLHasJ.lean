/- Whether an amount is in a jug. -/
import Derived.Test.YteciomagemjjaaaJx0
import Derived.Test.YteciomagemjjaaaLPrJ
namespace Go.Proofs.Yteciomagemjjaaa.J
open Go.RowKit Go.Proofs.YteciomagemjjaaaW.PrintWords Go.Proofs.YteciomagemjjaaaW.PrintLast Go.Proofs.YteciomagemjjaaaW.PrintMore
attribute [local go_sem] zna zka zra zsa zga zha zla zma   -- for this text's walks alone
set_option linter.unusedVariables false
set_option linter.unusedSimpArgs false
/-! ### impl_Puzzle_hasAmount_1: function 102 -/
def impl_Puzzle_hasAmount_1.f (a0 : Int) (a1_0 : Int) : Option (Bool) := some ((wrap64 (a0)) == a1_0)
set_option maxHeartbeats 8000000 in
set_option maxRecDepth 100000 in
theorem impl_Puzzle_hasAmount_1.calls (a0 : Int) (g1 : Nat) (a1_0 : Int) (r : Bool) (w : World) (hb1 : w.heap[g1]? = some (.cells #[.int .i64 a1_0] 2 (0, 0))) (h : impl_Puzzle_hasAmount_1.f a0 a1_0 = some r) :
  Calls Try.prog 102 #[.int .i16 a0, .pointer (some ⟨g1, 0, none⟩)] w fun e w' => e = .returned (.bool r) ∧ zba w w' := by
 have BK1 := za.mk hb1
 clear hb1
 have H : (some ((wrap64 (a0)) == a1_0)) = some r := h
 clear h
 obtain rfl := Option.some.inj H
 have hcz3_0 := xc1 BK1
 have hfz3_0 := xf1 BK1
 go_enter Try.func102, Try.ntmps102
 go_wp2
 go_ret
 exact ⟨by first | rfl | (simp; done) | (simp [*]; done), by repeat (first | exact zba.refl _ | apply zba.step)⟩

/-! ### slices_IndexFunc_int16_int16_102: function 1107102 -/
def slices_IndexFunc_int16_int16_102.l0 : Nat → List Int → Int → Int → Int → Option (Int)
 | 0, _, _, _, _ => none
 | k + 1, x0, x7, x8, x31000 => if x8 < x7 then (if 0 ≤ x8 then (if x8 < (x0.length : Int) then ((impl_Puzzle_hasAmount_1.f (rd x0 x8) x31000).bind fun t171 => (if t171 = true then (some x8) else (slices_IndexFunc_int16_int16_102.l0 k x0 x7 (wrap64 (x8 + 1)) x31000))) else (none)) else (none)) else (some (-1))
def slices_IndexFunc_int16_int16_102.f (k : Nat) (l0 : List Int) (a1_0 : Int) : Option (Int) := slices_IndexFunc_int16_int16_102.l0 k l0 (l0.length : Int) 0 a1_0
set_option maxHeartbeats 8000000 in
set_option maxRecDepth 100000 in
theorem slices_IndexFunc_int16_int16_102.calls (k : Nat) (A0 : Option Addr) (c0 : Nat) (l0 : List Int) (g200 : Nat) (a1_0 : Int) (r : Int) (w : World) (hr0 : Kd.C (Kd.int .i16) w A0 l0.length l0) (hc0 : l0.length ≤ c0) (hb30 : w.heap[g200]? = some (.cells #[.int .i64 a1_0] 2 (0, 0))) (h : slices_IndexFunc_int16_int16_102.f k l0 a1_0 = some r) :
  Calls Try.prog 107 #[.slice A0 l0.length c0, .func (.func 102) #[] #[.pointer (some ⟨g200, 0, none⟩)]] w fun e w' => e = .returned (.int .i64 r) ∧ zba w w' := by
 have HR0 := za.mk hr0
 have HC0 := za.mk hc0
 clear hr0 hc0
 have BK30 := za.mk hb30
 clear hb30
 have H : (slices_IndexFunc_int16_int16_102.l0 k l0 (l0.length : Int) 0 a1_0) = some r := h
 clear h
 have H' := za.mk H
 clear H
 go_enter Try.func107, Try.ntmps107
 go_wp2
 go_loopg [8] k (fun kq v8 w' => ∃ (x8_1 : Int), v8 = .int .i64 x8_1 ∧ za (slices_IndexFunc_int16_int16_102.l0 kq l0 (l0.length : Int) x8_1 a1_0 = some r) ∧ za (kq ≤ k) ∧ za (w'.heap[g200]? = some (.cells #[.int .i64 a1_0] 2 (0, 0))) ∧ zba w w')
 case atStart => exact ⟨(0), (by first | rfl | (simp; done) | (simp [*]; done)), H', ⟨Nat.le_refl _⟩, ⟨by (with_reducible repeat (first | refine ze ?_ _ | refine zf ?_ | refine zc ?_ _)); exact BK30.out⟩, by repeat (first | exact zba.refl _ | apply zba.step)⟩
 case round =>
  clear H'
  try clear c1
  try clear p2
  obtain ⟨x8_1, rfl, HA, HK1, BK30, ⟨m1, rfl⟩⟩ := hrel
  cases gk with
  | zero => exact absurd HA.out (by simp [slices_IndexFunc_int16_int16_102.l0])
  | succ k1 =>
   have H := HA.out
   clear HA
   simp only [slices_IndexFunc_int16_int16_102.l0] at H
   by_cases c3 : x8_1 < (l0.length : Int)
   ·rw [if_pos c3] at H
    have c3b0 : decide (x8_1 < (l0.length : Int)) = true := decide_eq_true c3
    clear c3
    by_cases c4 : 0 ≤ x8_1
    ·rw [if_pos c4] at H
     have c4b0 : decide (0 ≤ x8_1) = true := decide_eq_true c4
     clear c4
     by_cases c5 : x8_1 < (l0.length : Int)
     ·rw [if_pos c5] at H
      have c5b0 : decide (x8_1 < (l0.length : Int)) = true := decide_eq_true c5
      clear c5
      replace H := Option.bind_eq_some_iff.mp H
      obtain ⟨t171, A60, H⟩ := H
      replace H : (if t171 = true then (some x8_1) else (slices_IndexFunc_int16_int16_102.l0 k1 l0 (l0.length : Int) (wrap64 (x8_1 + 1)) a1_0)) = some r := H
      have A6 := za.mk A60
      clear A60
      by_cases c7 : t171 = true
      ·subst c7
       have H1 : (some x8_1) = some r := by rw [if_pos rfl] at H; exact H
       clear H
       have H := H1
       clear H1
       obtain rfl := Option.some.inj H
       have p170 : 0 ≤ (x8_1 : Int) := of_decide_eq_true (by first | (with_reducible assumption) | assumption)
       have q170 : x8_1 < (l0.length : Int) := of_decide_eq_true (by first | (with_reducible assumption) | assumption)
       obtain ⟨ad170, e170, hx170_0⟩ := Kd.at_int HR0.out x8_1 p170 q170
       cases e170
       replace p170 := eq_true p170
       replace q170 := eq_true q170
       go_wp2_with (first | (go_at_call 102; (with_reducible refine (impl_Puzzle_hasAmount_1.calls (rd l0 x8_1) g200 a1_0 true _ ?side1 A6.out).mono ?_); (case side1 => (with_reducible repeat (first | refine ze ?_ _ | refine zf ?_ | refine zc ?_ _)); exact BK30.out); rintro e w' ⟨rfl, ⟨nd, rfl⟩⟩))
       go_ret
       exact ⟨by first | rfl | (simp; done) | (simp [*]; done), by repeat (first | exact zba.refl _ | apply zba.step)⟩
      ·replace c7 := Bool.eq_false_iff.mpr c7
       subst c7
       have H1 : (slices_IndexFunc_int16_int16_102.l0 k1 l0 (l0.length : Int) (wrap64 (x8_1 + 1)) a1_0) = some r := by rw [if_neg (show ¬ (false = true) by decide)] at H; exact H
       clear H
       have H := H1
       clear H1
       have H' := za.mk H
       clear H
       have p170 : 0 ≤ (x8_1 : Int) := of_decide_eq_true (by first | (with_reducible assumption) | assumption)
       have q170 : x8_1 < (l0.length : Int) := of_decide_eq_true (by first | (with_reducible assumption) | assumption)
       obtain ⟨ad170, e170, hx170_0⟩ := Kd.at_int HR0.out x8_1 p170 q170
       cases e170
       replace p170 := eq_true p170
       replace q170 := eq_true q170
       go_wp2_with (first | (go_at_call 102; (with_reducible refine (impl_Puzzle_hasAmount_1.calls (rd l0 x8_1) g200 a1_0 false _ ?side1 A6.out).mono ?_); (case side1 => (with_reducible repeat (first | refine ze ?_ _ | refine zf ?_ | refine zc ?_ _)); exact BK30.out); rintro e w' ⟨rfl, ⟨nd, rfl⟩⟩))
       go_roundg k1
       case measure => have := HK1.out; omega
       case rel => exact ⟨(wrap64 (x8_1 + 1)), (by first | rfl | (simp; done) | (simp [*]; done)), H', ⟨by have := HK1.out; omega⟩, ⟨by (with_reducible repeat (first | refine ze ?_ _ | refine zf ?_ | refine zc ?_ _)); exact BK30.out⟩, by repeat (first | exact zba.refl _ | apply zba.step)⟩
     ·rw [if_neg c5] at H
      exact absurd H (by simp)
    ·rw [if_neg c4] at H
     exact absurd H (by simp)
   ·rw [if_neg c3] at H
    have c3b0 : decide (x8_1 < (l0.length : Int)) = false := decide_eq_false c3
    clear c3
    obtain rfl := Option.some.inj H
    go_wp2
    go_ret
    exact ⟨by first | rfl | (simp; done) | (simp [*]; done), by repeat (first | exact zba.refl _ | apply zba.step)⟩

/-! ### slices_ContainsFunc_int16_int16_102: function 1087102 -/
def slices_ContainsFunc_int16_int16_102.f (k : Nat) (l0 : List Int) (a1_0 : Int) : Option (Bool) := (slices_IndexFunc_int16_int16_102.f k l0 a1_0).bind fun t172 => (some (decide (t172 ≥ 0)))
set_option maxHeartbeats 8000000 in
set_option maxRecDepth 100000 in
theorem slices_ContainsFunc_int16_int16_102.calls (k : Nat) (A0 : Option Addr) (c0 : Nat) (l0 : List Int) (g200 : Nat) (a1_0 : Int) (r : Bool) (w : World) (hr0 : Kd.C (Kd.int .i16) w A0 l0.length l0) (hc0 : l0.length ≤ c0) (hb30 : w.heap[g200]? = some (.cells #[.int .i64 a1_0] 2 (0, 0))) (h : slices_ContainsFunc_int16_int16_102.f k l0 a1_0 = some r) :
  Calls Try.prog 87 #[.slice A0 l0.length c0, .func (.func 102) #[] #[.pointer (some ⟨g200, 0, none⟩)]] w fun e w' => e = .returned (.bool r) ∧ zba w w' := by
 have HR0 := za.mk hr0
 have HC0 := za.mk hc0
 clear hr0 hc0
 have BK30 := za.mk hb30
 clear hb30
 have H : ((slices_IndexFunc_int16_int16_102.f k l0 a1_0).bind fun t172 => (some (decide (t172 ≥ 0)))) = some r := h
 clear h
 replace H := Option.bind_eq_some_iff.mp H
 obtain ⟨t172, A30, H⟩ := H
 replace H : (some (decide (t172 ≥ 0))) = some r := H
 have A3 := za.mk A30
 clear A30
 obtain rfl := Option.some.inj H
 go_enter Try.func87, Try.ntmps87
 go_wp2_with (first | ((with_reducible refine zl (f := 107) rfl ?_); refine gz (some 7) Try.func107 #[.slice A0 l0.length c0, .func (.func 102) #[] #[.pointer (some ⟨g200, 0, none⟩)]] rfl rfl ?_; (with_reducible refine (slices_IndexFunc_int16_int16_102.calls k _ _ l0 g200 a1_0 t172 _ ?side1 ?side2 ?side3 A3.out).mono ?_); (case side1 => repeat (first | exact HR0.out | (with_reducible refine Kd.C_alloc ?_ _) | (with_reducible refine Kd.C_drewN ?_ _) | (with_reducible refine Kd.C_drew ?_))); (case side2 => exact HC0.out); (case side3 => exact uK BK30); rintro e w' ⟨rfl, ⟨nd, rfl⟩⟩; refine ⟨_, rfl, ?_⟩))
 go_ret
 exact ⟨by first | rfl | (simp; done) | (simp [*]; done), by repeat (first | exact zba.refl _ | apply zba.step)⟩

/-- Does one of the first cells of a water hold so much? -/
def hasA.f (k : Nat) (l W : List Int) (n : Int) : Option Bool := if l.length ≤ W.length then slices_ContainsFunc_int16_int16_102.f k (W.take l.length) n else none
theorem hasA_some {k : Nat} {l W : List Int} {n : Int} {r : Bool} (h : hasA.f k l W n = some r) : l.length ≤ W.length ∧ slices_ContainsFunc_int16_int16_102.f k (W.take l.length) n = some r := by
  unfold hasA.f at h
  split at h
  · rename_i hc
    exact ⟨hc, h⟩
  · cases h
theorem arr_C {w : World} {g : Nat} {t : TypeId} {a b c d : Int} (h : w.heap[g]? = some (.cells #[.int .i16 a, .int .i16 b, .int .i16 c, .int .i16 d] t (0, 0))) : Kd.C (Kd.int .i16) w (some ⟨g, 0, none⟩) [a, b, c, d].length [a, b, c, d] := by
  refine Kd.C_of_reads (d := 0) ⟨rfl, (show (4 : Nat) ≤ 9223372036854775807 by decide), fun _ => ⟨⟨g, 0, none⟩, rfl, fun j hj => ?_⟩⟩
  have hj' : j < 4 := hj
  have e : (⟨g, 0, none⟩ : Addr).add j = ⟨g, j, none⟩ := by unfold Addr.add; split <;> simp_all
  rw [e]
  rcases (show j = 0 ∨ j = 1 ∨ j = 2 ∨ j = 3 by omega) with rfl | rfl | rfl | rfl
  · exact (zb h 0).trans rfl
  · exact (zb h 1).trans rfl
  · exact (zb h 2).trans rfl
  · exact (zb h 3).trans rfl
theorem slice27 (g n : Nat) (h : n ≤ 4) (w : World) : (Instr.sliceAt 27 (.pointer (some ⟨g, 0, none⟩)) none (some (.int .i64 (n : Int))) none).run Try.prog w = .ok (.slice (some ⟨g, 0, none⟩) n 4) w := by
  rcases (show n = 0 ∨ n = 1 ∨ n = 2 ∨ n = 3 ∨ n = 4 by omega) with rfl | rfl | rfl | rfl | rfl <;> kernel_rfl
theorem arr_T {w : World} {g : Nat} {t : TypeId} {a b c d : Int} {n : Nat} {y : List Int} (h : w.heap[g]? = some (.cells #[.int .i16 a, .int .i16 b, .int .i16 c, .int .i16 d] t (0, 0))) (hy : y = [a, b, c, d].take n) (hn : n ≤ 4) : Kd.C (Kd.int .i16) w (some ⟨g, 0, none⟩) y.length y := by
  subst hy
  exact Kd.C_take (arr_C h) hn
/-! ### impl_Puzzle_hasAmount: function 71 -/
def impl_Puzzle_hasAmount.f (k : Nat) (l0_0 : List Int) (a0_1 : Int) (a0_2 : Int) (a0_3 : Int) (a0_4 : Int) (a0_5 : Bool) (a1_0 : Int) (a1_1 : Int) (a1_2 : Int) (a1_3 : Int) (a2 : Int) : Option (Bool) := (hasA.f k l0_0 [a1_0, a1_1, a1_2, a1_3] a2).bind fun t176 => (some t176)
set_option maxHeartbeats 8000000 in
set_option maxRecDepth 100000 in
theorem impl_Puzzle_hasAmount.calls (k : Nat) (A0_0 : Option Addr) (c0_0 : Nat) (l0_0 : List Int) (a0_1 : Int) (a0_2 : Int) (a0_3 : Int) (a0_4 : Int) (a0_5 : Bool) (a1_0 : Int) (a1_1 : Int) (a1_2 : Int) (a1_3 : Int) (a2 : Int) (r : Bool) (w : World) (hr0_0 : Kd.C (Kd.int .i16) w A0_0 l0_0.length l0_0) (hc0_0 : l0_0.length ≤ c0_0) (h : impl_Puzzle_hasAmount.f k l0_0 a0_1 a0_2 a0_3 a0_4 a0_5 a1_0 a1_1 a1_2 a1_3 a2 = some r) :
  Calls Try.prog 71 #[.agg #[.slice A0_0 l0_0.length c0_0, .int .i16 a0_1, .int .i16 a0_2, .int .i16 a0_3, .int .i16 a0_4, .bool a0_5], .agg #[.int .i16 a1_0, .int .i16 a1_1, .int .i16 a1_2, .int .i16 a1_3], .int .i64 a2] w fun e w' => e = .returned (.bool r) ∧ Below w.heap.size w w' := by
 have hu29 := Try.underlying29
 have hu27 := Try.underlying27
 have HR0_0 := za.mk hr0_0
 have HC0_0 := za.mk hc0_0
 clear hr0_0 hc0_0
 have HB := za.mk (Below.refl w.heap.size w)
 have H : ((hasA.f k l0_0 [a1_0, a1_1, a1_2, a1_3] a2).bind fun t176 => (some t176)) = some r := h
 clear h
 replace H := Option.bind_eq_some_iff.mp H
 obtain ⟨t176, A40, H⟩ := H
 replace H : (some t176) = some r := H
 have A4 := za.mk A40
 clear A40
 obtain rfl := Option.some.inj H
 obtain ⟨hlen, hcon⟩ := hasA_some A4.out
 obtain ⟨y, hy⟩ : ∃ y, y = [a1_0, a1_1, a1_2, a1_3].take l0_0.length := ⟨_, rfl⟩
 rw [← hy] at hcon
 have HY : za (l0_0.length = y.length ∧ y = [a1_0, a1_1, a1_2, a1_3].take l0_0.length) := ⟨by rw [hy, List.length_take]; omega, hy⟩
 have HCN := za.mk hcon
 have hl4 : l0_0.length ≤ 4 := hlen
 have hd4 : decide ((l0_0.length : Int) ≤ 4) = true := decide_eq_true (by omega)
 have hd0 : decide (0 ≤ (l0_0.length : Int)) = true := decide_eq_true (by omega)
 have hd5 : decide ((l0_0.length : Int) < 0) = false := decide_eq_false (by omega)
 have hd6 : decide (4 < (l0_0.length : Int)) = false := decide_eq_false (by omega)
 have hsl := fun (g : Nat) (w' : World) => slice27 g l0_0.length hl4 w'
 clear hy hcon hlen
 go_enter Try.func71, Try.ntmps71
 go_wp2_with (first | ((with_reducible refine zu (N := 3) rfl ?_); refine bx (N := 3) #[.slice A0_0 l0_0.length c0_0, .int .i16 a0_1, .int .i16 a0_2, .int .i16 a0_3, .int .i16 a0_4, .bool a0_5] 29 rfl ?_; intro gb173 hg w5 hbox hb; have BK173 := za.mk hbox; have GW173 := gB hg; have GE173 := gB hg; replace HB := za.mk (zi sB hb); clear hb hbox hg) | ((with_reducible refine zu (N := 4) rfl ?_); refine bx (N := 4) #[.int .i16 a1_0, .int .i16 a1_1, .int .i16 a1_2, .int .i16 a1_3] 27 rfl ?_; intro gb174 hg w6 hbox hb; have BK174 := za.mk hbox; have GW174 := gB hg; have GE174 := gB hg; have NB173_174 := nK hg BK173; have NB174_173 := za.mk (nK hg BK173).out.symm; replace BK173 := dK BK173 hb; replace HB := za.mk (zi sB hb); clear hb hbox hg) | ((with_reducible refine zu (N := 5) rfl ?_); refine bx (N := 5) #[.int .i64 a2] 2 rfl ?_; intro gb175 hg w7 hbox hb; have BK175 := za.mk hbox; have GW175 := gB hg; have GE175 := gB hg; have NB173_175 := nK hg BK173; have NB175_173 := za.mk (nK hg BK173).out.symm; have NB174_175 := nK hg BK174; have NB175_174 := za.mk (nK hg BK174).out.symm; replace BK173 := dK BK173 hb; replace BK174 := dK BK174 hb; replace HB := za.mk (zi sB hb); clear hb hbox hg; have hnb8 := NB173_174.out; have hnc8 := NB174_173.out; have hnb9 := NB173_175.out; have hnc9 := NB175_173.out; obtain ⟨hcz10_0, hcz10_1, hcz10_2, hcz10_3, hcz10_4, hcz10_5⟩ := xc6 BK173; obtain ⟨hfz10_0, hfz10_1, hfz10_2, hfz10_3, hfz10_4, hfz10_5⟩ := xf6 BK173) | ((with_reducible refine zl (f := 87) rfl ?_); refine gz (some 12) Try.func87 #[.slice (some ⟨gb174, 0, none⟩) y.length 4, .func (.func 102) #[] #[.pointer (some ⟨gb175, 0, none⟩)]] rfl rfl ?_ (hargs := by (try simp only [List.map_toArray, List.map_cons, List.map_nil]); rw [← HY.out.1]; rfl); (with_reducible refine (slices_ContainsFunc_int16_int16_102.calls k _ _ y gb175 a2 t176 _ ?side1 ?side2 ?side3 HCN.out).mono ?_); (case side1 => exact arr_T (uK BK174) HY.out.2 hl4); (case side2 => (have := HY.out.1; omega)); (case side3 => exact uK BK175); rintro e w' ⟨rfl, ⟨nd, rfl⟩⟩; refine ⟨_, rfl, ?_⟩))
 go_ret
 exact ⟨by first | rfl | (simp [zj, zk] <;> rfl) | (simp [*, zj, zk] <;> rfl), sB⟩
end Go.Proofs.Yteciomagemjjaaa.J
