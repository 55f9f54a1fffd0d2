/- The reference's search of all waters. -/
import Derived.Test.YteciomagemjjaaaJx10
import Derived.Test.YteciomagemjjaaaJx12
import Derived.Test.YteciomagemjjaaaJx8
import Derived.Test.YteciomagemjjaaaLFillJ
import Derived.Test.YteciomagemjjaaaLMapJ
import Derived.Test.YteciomagemjjaaaLPrJ
namespace Go.Proofs.Yteciomagemjjaaa.J
open Go.RowKit Go.Proofs.YteciomagemjjaaaW.PrintWords Go.Proofs.YteciomagemjjaaaW.PrintLast Go.Proofs.YteciomagemjjaaaW.PrintMore
attribute [local go_sem] zna zpa zua zva zia zja zqa zoa   -- for this text's walks alone
set_option linter.unusedVariables false
set_option linter.unusedSimpArgs false
section
variable {w : World} {g t : Nat} {a b c d : Value}
theorem info2 : (Try.prog.info? 2).map (fun i => (i.zero, i.size, i.bytes)) = some (some (.int .i64 0), 1, 8) := by kernel_rfl
theorem zic (h : w.heap[g]? = some (.cells #[a, b, c, d] t (0, 0))) : w.cell? ⟨g, 0, none⟩ = some a := (zb h 0).trans rfl
theorem zuc (h : w.heap[g]? = some (.cells #[a, b, c, d] t (0, 0))) : w.cell? ⟨g, 1, none⟩ = some b := (zb h 1).trans rfl
theorem zmc (h : w.heap[g]? = some (.cells #[a, b, c, d] t (0, 0))) : w.cell? ⟨g, 2, none⟩ = some c := (zb h 2).trans rfl
theorem zkc (h : w.heap[g]? = some (.cells #[a, b, c, d] t (0, 0))) : w.cell? ⟨g, 3, none⟩ = some d := (zb h 3).trans rfl
theorem zdb {w0 w w' : World} {g : Nat} {o : Obj} (h : w0.heap[g]? = some o) (f : w0.heap[g]? = some o → w.heap[g]? = some o) (hb : Below w.heap.size w w') : w'.heap[g]? = some o := zca (f h) hb
theorem zdc {w0 w w' : World} {g : Nat} {o : Obj} {row : Option Nat} (h : w0.heap[g]? = some o) (f : w0.heap[g]? = some o → w.heap[g]? = some o) (hg : w.grownBy w' row) (hne : some g ≠ row) : w'.heap[g]? = some o := zga (f h) hg hne
theorem zme {w0 w : World} {g : Nat} {o : Obj} (h : w0.heap[g]? = some o) (f : w0.heap[g]? = some o → w.heap[g]? = some o) : g < w.heap.size := zfb (f h)
theorem blk4_put (h : w.heap[g]? = some (.cells #[a, b, c, d] t (0, 0))) (v : Value) : (w.setCell ⟨g, 3, none⟩ v).heap[g]? = some (.cells #[a, b, c, v] t (0, 0)) := zx (cs := #[a, b, c, d]) h 3 v rfl
end
instance (n : Nat) (a b c : Int) : Decidable (isMv n a b c) := inferInstanceAs (Decidable ((_ ∧ _) ∧ (_ ∧ _) ∧ (_ ∨ (_ ∨ _) ∧ _)))
instance (a b c d : Int) : Decidable (isW a b c d) := inferInstanceAs (Decidable ((_ ∧ _) ∧ (_ ∧ _) ∧ (_ ∧ _) ∧ (_ ∧ _)))
/-- The water behind a move, with a code: what is no move or no water, is none. -/
def spec_l02Move.f (l0_0 : List Int) (_a0_1 : Int) (_a0_2 : Int) (_a0_3 : Int) (_a0_4 : Int) (a0_5 : Bool) (a1_0 : Int) (a1_1 : Int) (a1_2 : Int) (a1_3 : Int) (a2_0 : Int) (a2_1 : Int) (a2_2 : Int) : Option (Int × Int × Int × Int × Int) :=
  if l0_0.length ≤ 4 ∧ isMv l0_0.length a2_0 a2_1 a2_2 ∧ isW a1_0 a1_1 a1_2 a1_3 then some (znc l0_0 a0_5 a1_0 a1_1 a1_2 a1_3 a2_0 a2_1 a2_2) else none
theorem spec_l02Move.calls (g0 : Nat) (A0_0 : Option Addr) (c0_0 : Nat) (l0_0 : List Int) (a0_1 : Int) (a0_2 : Int) (a0_3 : Int) (a0_4 : Int) (a0_5 : Bool) (a1_0 : Int) (a1_1 : Int) (a1_2 : Int) (a1_3 : Int) (a2_0 : Int) (a2_1 : Int) (a2_2 : Int) (r1 : Int) (r2 : Int) (r3 : Int) (r4 : Int) (r5 : Int) (w : World) (hb0 : w.heap[g0]? = some (.cells #[.slice A0_0 l0_0.length c0_0, .int .i16 a0_1, .int .i16 a0_2, .int .i16 a0_3, .int .i16 a0_4, .bool a0_5] 29 (0, 0))) (hr0_0 : Kd.C (Kd.int .i16) w A0_0 l0_0.length l0_0) (hc0_0 : l0_0.length ≤ c0_0) (h : spec_l02Move.f l0_0 a0_1 a0_2 a0_3 a0_4 a0_5 a1_0 a1_1 a1_2 a1_3 a2_0 a2_1 a2_2 = some (r1, r2, r3, r4, r5)) :
  Calls Try.prog 76 #[.pointer (some ⟨g0, 0, none⟩), .agg #[.int .i16 a1_0, .int .i16 a1_1, .int .i16 a1_2, .int .i16 a1_3], .agg #[.int .i8 a2_0, .int .i8 a2_1, .int .i8 a2_2]] w fun e w' => e = .returned (.tuple #[.agg #[.int .i16 r1, .int .i16 r2, .int .i16 r3, .int .i16 r4], .int .i64 r5]) ∧ Below w.heap.size w w' := by
  unfold spec_l02Move.f at h
  by_cases hc : l0_0.length ≤ 4 ∧ isMv l0_0.length a2_0 a2_1 a2_2 ∧ isW a1_0 a1_1 a1_2 a1_3
  · rw [if_pos hc] at h
    have h1 := Option.some.inj h
    have h2 := step_calls g0 A0_0 c0_0 l0_0 a0_1 a0_2 a0_3 a0_4 a0_5 a1_0 a1_1 a1_2 a1_3 a2_0 a2_1 a2_2 w hb0 hr0_0 hc0_0 hc.1 hc.2.1 hc.2.2
    rw [h1] at h2
    exact h2
  rw [if_neg hc] at h
  cases h
/-! ### spec_l02Find: function 58 -/
mutual
def spec_l02Find.l0 : Nat → Int → Int → List Int → List Int → List (S80) → List Int → Int → Int → Int → Int → Bool → Option (List Int × List Int × List (S80) × List Int)
 | 0, _, _, _, _, _, _, _, _, _, _, _ => none
 | k + 1, x3, x5, x154, x155, x156, x210000, x210001, x210002, x210003, x210004, x210005 => if x5 < x3 then (if 0 ≤ x5 then (if x5 < (x154.length : Int) then (spec_l02Find.l0 k x3 (wrap64 (x5 + 1)) (x154.set (x5 : Int).toNat (-1)) x155 x156 x210000 x210001 x210002 x210003 x210004 x210005) else (none)) else (none)) else ((spec_l02Index.f k x210000 x210001 x210002 x210003 x210004 x210005 x210001 x210002 x210003 x210004).bind fun t222 => (if 0 ≤ t222 then (if t222 < (x154.length : Int) then (if ([] : List Int).length < 17592186044416 then ((spec_l02All.f k x210000 x210001 x210002 x210003 x210004 x210005).bind fun t227 => (spec_l02Find.l1 k t227 0 (x154.set (t222 : Int).toNat 0) x155 x156 (([] : List Int) ++ [t222]) x210000 x210001 x210002 x210003 x210004 x210005)) else (none)) else (none)) else (none)))
def spec_l02Find.l1 : Nat → List (S80) → Int → List Int → List Int → List (S80) → List Int → List Int → Int → Int → Int → Int → Bool → Option (List Int × List Int × List (S80) × List Int)
 | 0, _, _, _, _, _, _, _, _, _, _, _, _ => none
 | k + 1, x7, x8, x154, x155, x156, x157, x210000, x210001, x210002, x210003, x210004, x210005 => if x8 < (x157.length : Int) then (if 0 ≤ x8 then ((spec_l02At.f k x210000 x210001 x210002 x210003 x210004 x210005 (rd x157 x8)).bind fun bt231 => (spec_l02Find.l2 k x7 x8 (rd x157 x8) 0 x154 x155 x156 x157 x210000 x210001 x210002 x210003 x210004 x210005 bt231.1 bt231.2.1 bt231.2.2.1 bt231.2.2.2)) else (none)) else (some (x154, x155, x156, x157))
def spec_l02Find.l2 : Nat → List (S80) → Int → Int → Int → List Int → List Int → List (S80) → List Int → List Int → Int → Int → Int → Int → Bool → Int → Int → Int → Int → Option (List Int × List Int × List (S80) × List Int)
 | 0, _, _, _, _, _, _, _, _, _, _, _, _, _, _, _, _, _, _ => none
 | k + 1, x7, x8, x9, x11, x154, x155, x156, x157, x210000, x210001, x210002, x210003, x210004, x210005, x236000, x236001, x236002, x236003 => if x11 < (x7.length : Int) then (if 0 ≤ x11 then ((spec_l02Move.f x210000 x210001 x210002 x210003 x210004 x210005 x236000 x236001 x236002 x236003 ((zi x7 x11).f0) ((zi x7 x11).f1) ((zi x7 x11).f2)).bind fun bt237 => (if bt237.2.2.2.2 = 0 then ((spec_l02Index.f k x210000 x210001 x210002 x210003 x210004 x210005 bt237.1 bt237.2.1 bt237.2.2.1 bt237.2.2.2.1).bind fun t243 => (if 0 ≤ t243 then (if t243 < (x154.length : Int) then (if (rd x154 t243) ≥ 0 then (spec_l02Find.l2 k x7 x8 x9 (wrap64 (x11 + 1)) x154 x155 x156 x157 x210000 x210001 x210002 x210003 x210004 x210005 x236000 x236001 x236002 x236003) else (if 0 ≤ x9 then (if x9 < (x154.length : Int) then (if t243 < (x155.length : Int) then (if t243 < (x156.length : Int) then (if x157.length < 17592186044416 then (spec_l02Find.l2 k x7 x8 x9 (wrap64 (x11 + 1)) (x154.set (t243 : Int).toNat (IntKind.i16.wrap ((rd x154 x9) + 1))) (x155.set (t243 : Int).toNat x9) (x156.set (t243 : Int).toNat (⟨(zi x7 x11).f0, (zi x7 x11).f1, (zi x7 x11).f2⟩ : S80)) (x157 ++ [t243]) x210000 x210001 x210002 x210003 x210004 x210005 x236000 x236001 x236002 x236003) else (none)) else (none)) else (none)) else (none)) else (none))) else (none)) else (none))) else (spec_l02Find.l2 k x7 x8 x9 (wrap64 (x11 + 1)) x154 x155 x156 x157 x210000 x210001 x210002 x210003 x210004 x210005 x236000 x236001 x236002 x236003))) else (none)) else (spec_l02Find.l1 k x7 (wrap64 (x8 + 1)) x154 x155 x156 x157 x210000 x210001 x210002 x210003 x210004 x210005)
end
def spec_l02Find.f (k : Nat) (l0_0 : List Int) (a0_1 : Int) (a0_2 : Int) (a0_3 : Int) (a0_4 : Int) (a0_5 : Bool) : Option (List Int × List Int × List (S80) × List Int) := (spec_l02States.f k l0_0).bind fun t210 => (if 0 ≤ t210 then (if (t210 : Int).toNat ≤ 140737488355328 then (if (t210 : Int).toNat ≤ 35184372088832 then (if (t210 : Int).toNat ≤ 93824992236885 then (spec_l02Find.l0 k t210 0 (List.replicate (t210 : Int).toNat 0) (List.replicate (t210 : Int).toNat 0) (List.replicate (t210 : Int).toNat z80) l0_0 a0_1 a0_2 a0_3 a0_4 a0_5) else (none)) else (none)) else (none)) else (none))
def spec_l02Find.T2 : Bool × List (List Nat × List Nat) := (true, [([], []), ([0, 0], [0]), ([], []), ([2, 2], [2]), ([], []), ([4, 4], [4]), ([1, 3, 5], [1, 3, 5]), ([6], [6]), ([7, 0, 1, 2, 3, 4, 5, 6, 7], [7])])
def spec_l02Find.B2 : List Nat := [0, 1, 0, 4, 0, 16, 63, 127, 255]
theorem spec_l02Find.tab2 : rtab .any (opsOf Try.f58 2) = spec_l02Find.T2 := by kernel_rfl
theorem spec_l02Find.bits2 : zxb spec_l02Find.T2.2 spec_l02Find.B2 = true := by kernel_rfl
def spec_l02Find.T19 : Bool × List (List Nat × List Nat) := (true, [([], []), ([], []), ([], []), ([], []), ([2, 3], [2, 3]), ([4], [4]), ([0, 1, 5], [0, 1, 5]), ([6], [6]), ([7], [7]), ([7], [7]), ([], []), ([10, 8, 6, 0, 1, 2, 3, 4, 5, 6, 7, 8, 10], [8, 10]), ([9, 11, 0, 1, 2, 3, 4, 5, 6, 7, 8, 9, 10, 11], [9])])
def spec_l02Find.B19 : List Nat := [0, 0, 0, 0, 12, 28, 63, 127, 255, 255, 0, 1535, 4095]
theorem spec_l02Find.tab19 : rtab .any (opsOf Try.f58 19) = spec_l02Find.T19 := by kernel_rfl
theorem spec_l02Find.bits19 : zxb spec_l02Find.T19.2 spec_l02Find.B19 = true := by kernel_rfl
def spec_l02Find.T23 : Bool × List (List Nat × List Nat) := (true, [([], []), ([0], [0]), ([1], [1]), ([2], [2]), ([], []), ([], []), ([5], [5]), ([6], [6]), ([7], [7]), ([], []), ([8, 9], [8, 9]), ([10], [10]), ([11], [11]), ([3, 4, 0, 1, 2, 3, 4, 5, 6, 7, 8, 9, 10, 11, 12], [3, 4]), ([13, 12, 0, 1, 2, 3, 4, 5, 6, 7, 8, 9, 10, 11, 12], [12, 13])])
def spec_l02Find.B23 : List Nat := [0, 1, 3, 7, 0, 0, 32, 96, 224, 0, 992, 2016, 4064, 8191, 16383]
theorem spec_l02Find.tab23 : rtab .any (opsOf Try.f58 23) = spec_l02Find.T23 := by kernel_rfl
theorem spec_l02Find.bits23 : zxb spec_l02Find.T23.2 spec_l02Find.B23 = true := by kernel_rfl
def spec_l02Find.T25 : Bool × List (List Nat × List Nat) := (true, [([], []), ([0], [0]), ([1], [1]), ([2], [2]), ([], []), ([], []), ([], []), ([5, 6], [5, 6]), ([7], [7]), ([3, 4, 0, 1, 2, 3, 4, 5, 6, 7, 8], [3, 4]), ([9, 8, 0, 1, 2, 3, 4, 5, 6, 7, 8], [8, 9])])
def spec_l02Find.B25 : List Nat := [0, 1, 3, 7, 0, 0, 0, 96, 224, 511, 1023]
theorem spec_l02Find.tab25 : rtab .any (opsOf Try.f58 25) = spec_l02Find.T25 := by kernel_rfl
theorem spec_l02Find.bits25 : zxb spec_l02Find.T25.2 spec_l02Find.B25 = true := by kernel_rfl
set_option maxHeartbeats 8000000 in
set_option maxRecDepth 100000 in
theorem spec_l02Find.calls (k : Nat) (gb209 : Nat) (A0_0 : Option Addr) (c0_0 : Nat) (l0_0 : List Int) (a0_1 : Int) (a0_2 : Int) (a0_3 : Int) (a0_4 : Int) (a0_5 : Bool) (r : List Int × List Int × List (S80) × List Int) (w : World) (hb0 : w.heap[gb209]? = some (.cells #[.slice A0_0 l0_0.length c0_0, .int .i16 a0_1, .int .i16 a0_2, .int .i16 a0_3, .int .i16 a0_4, .bool a0_5] 29 (0, 0))) (hr0_0 : Kd.C (Kd.int .i16) w A0_0 l0_0.length l0_0) (hc0_0 : l0_0.length ≤ c0_0) (h : spec_l02Find.f k l0_0 a0_1 a0_2 a0_3 a0_4 a0_5 = some r) :
  Calls Try.prog 58 #[.pointer (some ⟨gb209, 0, none⟩)] w fun e w' => ∃ (g : Nat), e = .returned (.pointer (some ⟨g, 0, none⟩)) ∧ w.heap.size ≤ g ∧ ∃ (v0_ v1_ v2_ v3_ : Value), w'.heap[g]? = some (.cells #[v0_, v1_, v2_, v3_] 87 (0, 0)) ∧ Kd.R (Kd.int .i16) 25 w' w.heap.size (fun _ => True) v0_ r.1 ∧ Kd.R (Kd.int .i64) 2 w' w.heap.size (fun k_ => some k_ ≠ (v3_ : Value).ownBlock) v1_ r.2.1 ∧ Kd.R k80 80 w' w.heap.size (fun _ => True) v2_ r.2.2.1 ∧ Kd.R (Kd.int .i64) 2 w' w.heap.size (fun _ => True) v3_ r.2.2.2 ∧ Below w.heap.size w w' := by
 have hu29 := Try.underlying29
 have hu27 := Try.underlying27
 have hu80 := Try.underlying80
 have HR0_0 := za.mk hr0_0
 have HC0_0 := za.mk hc0_0
 clear hr0_0 hc0_0
 have HB := za.mk (Below.refl w.heap.size w)
 have BK209 := za.mk hb0
 clear hb0
 have H : ((spec_l02States.f k l0_0).bind fun t210 => (if 0 ≤ t210 then (if (t210 : Int).toNat ≤ 140737488355328 then (if (t210 : Int).toNat ≤ 35184372088832 then (if (t210 : Int).toNat ≤ 93824992236885 then (spec_l02Find.l0 k t210 0 (List.replicate (t210 : Int).toNat 0) (List.replicate (t210 : Int).toNat 0) (List.replicate (t210 : Int).toNat z80) l0_0 a0_1 a0_2 a0_3 a0_4 a0_5) else (none)) else (none)) else (none)) else (none))) = some r := h
 clear h
 replace H := Option.bind_eq_some_iff.mp H
 obtain ⟨t210, A20, H⟩ := H
 replace H : (if 0 ≤ t210 then (if (t210 : Int).toNat ≤ 140737488355328 then (if (t210 : Int).toNat ≤ 35184372088832 then (if (t210 : Int).toNat ≤ 93824992236885 then (spec_l02Find.l0 k t210 0 (List.replicate (t210 : Int).toNat 0) (List.replicate (t210 : Int).toNat 0) (List.replicate (t210 : Int).toNat z80) l0_0 a0_1 a0_2 a0_3 a0_4 a0_5) else (none)) else (none)) else (none)) else (none)) = some r := H
 have A2 := za.mk A20
 clear A20
 by_cases c3 : 0 ≤ t210
 rotate_left
 ·rw [if_neg c3] at H
  exact absurd H (by simp)
 rw [if_pos c3] at H
 have c3b0 := eq_true c3
 have c3b1 : decide (0 ≤ t210) = true := decide_eq_true c3
 clear c3
 by_cases c4 : (t210 : Int).toNat ≤ 140737488355328
 rotate_left
 ·rw [if_neg c4] at H
  exact absurd H (by simp)
 rw [if_pos c4] at H
 have c4b0 := eq_true c4
 have c4b1 : decide ((t210 : Int).toNat ≤ 140737488355328) = true := decide_eq_true c4
 clear c4
 obtain ⟨y211, hy211⟩ : ∃ y_ : List Int, y_ = (List.replicate (t210 : Int).toNat 0) := ⟨_, rfl⟩
 replace H : (if (t210 : Int).toNat ≤ 35184372088832 then (if (t210 : Int).toNat ≤ 93824992236885 then (spec_l02Find.l0 k t210 0 y211 (List.replicate (t210 : Int).toNat 0) (List.replicate (t210 : Int).toNat z80) l0_0 a0_1 a0_2 a0_3 a0_4 a0_5) else (none)) else (none)) = some r := by first | (rw [hy211]; with_reducible exact H) | (have H2_ := (Option.bind_some _ _).symm.trans H; rw [hy211]; with_reducible exact H2_) | (have H2_ := (Option.bind_some _ _).symm.trans H; with_reducible exact H2_) | with_reducible exact H | (rw [hy211]; exact H) | exact H
 have Ny211 := za.mk hy211
 clear hy211
 by_cases c5 : (t210 : Int).toNat ≤ 35184372088832
 rotate_left
 ·rw [if_neg c5] at H
  exact absurd H (by simp)
 rw [if_pos c5] at H
 have c5b0 := eq_true c5
 have c5b1 : decide ((t210 : Int).toNat ≤ 35184372088832) = true := decide_eq_true c5
 clear c5
 obtain ⟨y214, hy214⟩ : ∃ y_ : List Int, y_ = (List.replicate (t210 : Int).toNat 0) := ⟨_, rfl⟩
 replace H : (if (t210 : Int).toNat ≤ 93824992236885 then (spec_l02Find.l0 k t210 0 y211 y214 (List.replicate (t210 : Int).toNat z80) l0_0 a0_1 a0_2 a0_3 a0_4 a0_5) else (none)) = some r := by first | (rw [hy214]; with_reducible exact H) | (have H2_ := (Option.bind_some _ _).symm.trans H; rw [hy214]; with_reducible exact H2_) | (have H2_ := (Option.bind_some _ _).symm.trans H; with_reducible exact H2_) | with_reducible exact H | (rw [hy214]; exact H) | exact H
 have Ny214 := za.mk hy214
 clear hy214
 by_cases c6 : (t210 : Int).toNat ≤ 93824992236885
 rotate_left
 ·rw [if_neg c6] at H
  exact absurd H (by simp)
 rw [if_pos c6] at H
 have c6b0 := eq_true c6
 have c6b1 : decide ((t210 : Int).toNat ≤ 93824992236885) = true := decide_eq_true c6
 clear c6
 obtain ⟨y217, hy217⟩ : ∃ y_ : List (S80), y_ = (List.replicate (t210 : Int).toNat z80) := ⟨_, rfl⟩
 replace H : (spec_l02Find.l0 k t210 0 y211 y214 y217 l0_0 a0_1 a0_2 a0_3 a0_4 a0_5) = some r := by first | (rw [hy217]; with_reducible exact H) | (have H2_ := (Option.bind_some _ _).symm.trans H; rw [hy217]; with_reducible exact H2_) | (have H2_ := (Option.bind_some _ _).symm.trans H; with_reducible exact H2_) | with_reducible exact H | (rw [hy217]; exact H) | exact H
 have Ny217 := za.mk hy217
 clear hy217
 have H' := za.mk H
 clear H
 go_enter Try.func58, Try.ntmps58
 obtain ⟨hcz8_0, hcz8_1, hcz8_2, hcz8_3, hcz8_4, hcz8_5⟩ := xc6 BK209
 obtain ⟨hfz8_0, hfz8_1, hfz8_2, hfz8_3, hfz8_4, hfz8_5⟩ := xf6 BK209
 try go_wp2_with (first | ((with_reducible refine zn (f := 94) rfl ?_); refine gz (some 19) Try.func94 #[.slice A0_0 l0_0.length c0_0] rfl rfl ?_; (with_reducible refine (spec_l02States.calls k _ _ l0_0 t210 _ ?side1 ?side2 A2.out).mono ?_); (case side1 => exact uC HR0_0 HB); (case side2 => exact HC0_0.out); rintro e w' ⟨rfl, ⟨nd, rfl⟩⟩; refine ⟨_, rfl, ?_⟩))
 (generalize hq_ : World.drewN w _ = w7; have n0_ : za (w7.heap[gb209]? = some (.cells #[.slice A0_0 l0_0.length c0_0, .int .i16 a0_1, .int .i16 a0_2, .int .i16 a0_3, .int .i16 a0_4, .bool a0_5] 29 (0, 0))) := ⟨by rw [← hq_]; exact (uK BK209)⟩; have n1_ : za (Below w.heap.size w w7) := ⟨by rw [← hq_]; exact sB⟩; clear BK209 HB hq_; have BK209 := n0_; have HB := n1_; clear n0_ n1_)
 have n0_ := za.mk (zf BK209.out)
 have n1_ := za.mk (zv HB.out)
 clear BK209
 clear HB
 have BK209 := n0_
 have HB := n1_
 clear n0_ n1_
 refine zlc (n := 9) (S := fun w' => True) (ds := []) #[false, false, false, false, false, false, false, false, false] (by kernel_rfl) rfl rfl trivial (fun hHeld => ?_); refine zpb spec_l02Find.tab2 spec_l02Find.bits2 (fun HT_ HW_ => ?_)
 generalize w7.drew = w9 at BK209 HB hHeld ⊢
 refine zfa (i := 0) (N := some 20) (v := ?_) (a' := ?_) #[true, false, false, false, false, false, false, false, false] rfl rfl (zda HT_.out (by kernel_rfl)) (fun _ _ _ h => h) (Or.inl ⟨by rfl, ?_⟩) ?_ ?_
 rotate_left
 ·intro w'
  go_simp
  with_reducible rfl
 rotate_left
 ·simp only [Act.put, List.setIfInBounds_toArray, List.set_cons_zero, List.set_cons_succ, zz, zy]
  rfl
 refine zfa (i := 2) (N := some 22) (v := ?_) (a' := ?_) #[true, false, true, false, false, false, false, false, false] rfl rfl (zda HT_.out (by kernel_rfl)) (fun _ _ _ h => h) (Or.inl ⟨by rfl, ?_⟩) ?_ ?_
 rotate_left
 ·intro w'
  go_simp
  with_reducible rfl
 rotate_left
 ·simp only [Act.put, List.setIfInBounds_toArray, List.set_cons_zero, List.set_cons_succ, zz, zy]
  rfl
 refine zfa (i := 4) (N := some 24) (v := ?_) (a' := ?_) #[true, false, true, false, true, false, false, false, false] rfl rfl (zda HT_.out (by kernel_rfl)) (fun _ _ _ h => h) (Or.inl ⟨by rfl, ?_⟩) ?_ ?_
 rotate_left
 ·intro w'
  go_simp
  with_reducible rfl
 rotate_left
 ·simp only [Act.put, List.setIfInBounds_toArray, List.set_cons_zero, List.set_cons_succ, zz, zy]
  rfl
 refine zse (σ := Value × Value × Value) 3 #[true, true, true, true, true, true, false, false, false] (fun s_ => [(21, s_.1), (23, s_.2.1), (25, s_.2.2)]) (fun s_ w' => (Kd.R (Kd.int .i16) 25 w' w.heap.size (fun _ => True) s_.1 y211) ∧ (Kd.R (Kd.int .i64) 2 w' w.heap.size (fun _ => True) s_.2.1 y214) ∧ (Kd.R k80 80 w' w.heap.size (fun _ => True) s_.2.2 y217) ∧ (w'.heap[gb209]? = some (.cells #[.slice A0_0 l0_0.length c0_0, .int .i16 a0_1, .int .i16 a0_2, .int .i16 a0_3, .int .i16 a0_4, .bool a0_5] 29 (0, 0))) ∧ (Below w.heap.size w w')) ?_ ?_
 rotate_left
 ·intro hJ1_3_5
  refine zse (σ := Value × Value) 4 #[true, true, true, true, true, false, false, false, false] (fun s_ => [(21, s_.1), (23, s_.2)]) (fun s_ w' => (Kd.R (Kd.int .i16) 25 w' w.heap.size (fun _ => True) s_.1 y211) ∧ (Kd.R (Kd.int .i64) 2 w' w.heap.size (fun _ => True) s_.2 y214) ∧ (w'.heap[gb209]? = some (.cells #[.slice A0_0 l0_0.length c0_0, .int .i16 a0_1, .int .i16 a0_2, .int .i16 a0_3, .int .i16 a0_4, .bool a0_5] 29 (0, 0))) ∧ (Below w.heap.size w w')) ?_ ?_
  rotate_left
  ·intro hJ1_3
   refine zse (σ := Value × Value) 4 #[true, true, true, false, true, true, false, false, false] (fun s_ => [(21, s_.1), (25, s_.2)]) (fun s_ w' => (Kd.R (Kd.int .i16) 25 w' w.heap.size (fun _ => True) s_.1 y211) ∧ (Kd.R k80 80 w' w.heap.size (fun _ => True) s_.2 y217) ∧ (w'.heap[gb209]? = some (.cells #[.slice A0_0 l0_0.length c0_0, .int .i16 a0_1, .int .i16 a0_2, .int .i16 a0_3, .int .i16 a0_4, .bool a0_5] 29 (0, 0))) ∧ (Below w.heap.size w w')) ?_ ?_
   rotate_left
   ·intro hJ1_5
    refine zse (σ := Value × Value) 4 #[true, false, true, true, true, true, false, false, false] (fun s_ => [(23, s_.1), (25, s_.2)]) (fun s_ w' => (Kd.R (Kd.int .i64) 2 w' w.heap.size (fun _ => True) s_.1 y214) ∧ (Kd.R k80 80 w' w.heap.size (fun _ => True) s_.2 y217) ∧ (w'.heap[gb209]? = some (.cells #[.slice A0_0 l0_0.length c0_0, .int .i16 a0_1, .int .i16 a0_2, .int .i16 a0_3, .int .i16 a0_4, .bool a0_5] 29 (0, 0))) ∧ (Below w.heap.size w w')) ?_ ?_
    rotate_left
    ·intro hJ3_5
     refine zse (σ := Value) 5 #[true, true, true, false, true, false, false, false, false] (fun s_ => [(21, s_)]) (fun s_ w' => (Kd.R (Kd.int .i16) 25 w' w.heap.size (fun _ => True) s_ y211) ∧ (w'.heap[gb209]? = some (.cells #[.slice A0_0 l0_0.length c0_0, .int .i16 a0_1, .int .i16 a0_2, .int .i16 a0_3, .int .i16 a0_4, .bool a0_5] 29 (0, 0))) ∧ (Below w.heap.size w w')) ?_ ?_
     rotate_left
     ·intro hJ1
      refine zse (σ := Value) 5 #[true, false, true, true, true, false, false, false, false] (fun s_ => [(23, s_)]) (fun s_ w' => (Kd.R (Kd.int .i64) 2 w' w.heap.size (fun _ => True) s_ y214) ∧ (w'.heap[gb209]? = some (.cells #[.slice A0_0 l0_0.length c0_0, .int .i16 a0_1, .int .i16 a0_2, .int .i16 a0_3, .int .i16 a0_4, .bool a0_5] 29 (0, 0))) ∧ (Below w.heap.size w w')) ?_ ?_
      rotate_left
      ·intro hJ3
       refine zse (σ := Value) 5 #[true, false, true, false, true, true, false, false, false] (fun s_ => [(25, s_)]) (fun s_ w' => (Kd.R k80 80 w' w.heap.size (fun _ => True) s_ y217) ∧ (w'.heap[gb209]? = some (.cells #[.slice A0_0 l0_0.length c0_0, .int .i16 a0_1, .int .i16 a0_2, .int .i16 a0_3, .int .i16 a0_4, .bool a0_5] 29 (0, 0))) ∧ (Below w.heap.size w w')) ?_ ?_
       rotate_left
       ·intro hJ5
        refine three_ (i := 1) (j := 3) (k := 5) (Ni := some 21) (Nj := some 23) (Nk := some 25) #[true, true, true, false, true, false, false, false, false] #[true, false, true, true, true, false, false, false, false] #[true, false, true, false, true, true, false, false, false] rfl rfl rfl rfl rfl rfl (three_of HT_.out (by kernel_rfl)) (by decide) (by decide) (by decide) (fun K hK => ?_) (fun K hK => ?_) (fun K hK => ?_)
        ·skip
         refine Kd.R_make_step (Kd.int .i16) _ 25 (by rfl) (N := 21) rfl 24 _ _ rfl t210 rfl rfl Try.underlying24 (.int .i16 0) 2 info25 rfl (by decide) (by omega) 0 (ok := fun _ => True) (okp := fun _ => True) rfl (fun _ hk => hk) trivial (of_decide_eq_true (by first | (with_reducible assumption) | assumption)) (Nat.le_trans (Nat.mul_le_mul_right _ (of_decide_eq_true (by first | (with_reducible assumption) | assumption) : t210.toNat ≤ 140737488355328)) (by omega)) (Below.refl _ _) (Nat.le_refl _) ?_
         intro v212 w10 ho11 hb hg_ hnew_
         clear hg_ hnew_
         (first | rw [← Ny211.out] at ho11 | (simp only [Int.reduceToNat] at ho11; rw [← Ny211.out] at ho11))
         have n0_ := za.mk (Kd.R_lower ho11 (zaa sB))
         have n1_ := dK BK209 hb
         have n2_ := za.mk (zh sB hb)
         clear BK209
         clear HB
         have HO213 := n0_
         have BK209 := n1_
         have HB := n2_
         clear n0_ n1_ n2_
         clear hb ho11
         refine hK.out _ _ trivial (fun hHeld => ?_)
         clear hK K
         refine zma (a' := ?_) ?_ ?_
         rotate_left
         ·show Act.put _ (some 21) _ = _
          simp only [Act.put, List.setIfInBounds_toArray, List.set_cons_zero, List.set_cons_succ, zz, zy]
          rfl
         exact zma (by first | (simp only [zra, Act.put, List.setIfInBounds_toArray, List.set_cons_zero, List.set_cons_succ]; done) | (simp only [zra, Act.put, List.setIfInBounds_toArray, List.set_cons_zero, List.set_cons_succ]; rfl)) (hJ1 (v212) _ ⟨(uR HO213), (uK BK209), sB⟩)
        ·skip
         refine Kd.R_make_step (Kd.int .i64) _ 2 (by rfl) (N := 23) rfl 65 _ _ rfl t210 rfl rfl Try.underlying65 (.int .i64 0) 8 info2 rfl (by decide) (by omega) 0 (ok := fun _ => True) (okp := fun _ => True) rfl (fun _ hk => hk) trivial (of_decide_eq_true (by first | (with_reducible assumption) | assumption)) (Nat.le_trans (Nat.mul_le_mul_right _ (of_decide_eq_true (by first | (with_reducible assumption) | assumption) : t210.toNat ≤ 35184372088832)) (by omega)) (Below.refl _ _) (Nat.le_refl _) ?_
         intro v215 w10 ho11 hb hg_ hnew_
         clear hg_ hnew_
         (first | rw [← Ny214.out] at ho11 | (simp only [Int.reduceToNat] at ho11; rw [← Ny214.out] at ho11))
         have n0_ := za.mk (Kd.R_lower ho11 (zaa sB))
         have n1_ := dK BK209 hb
         have n2_ := za.mk (zh sB hb)
         clear BK209
         clear HB
         have HO216 := n0_
         have BK209 := n1_
         have HB := n2_
         clear n0_ n1_ n2_
         clear hb ho11
         refine hK.out _ _ trivial (fun hHeld => ?_)
         clear hK K
         refine zma (a' := ?_) ?_ ?_
         rotate_left
         ·show Act.put _ (some 23) _ = _
          simp only [Act.put, List.setIfInBounds_toArray, List.set_cons_zero, List.set_cons_succ, zz, zy]
          rfl
         exact zma (by first | (simp only [zra, Act.put, List.setIfInBounds_toArray, List.set_cons_zero, List.set_cons_succ]; done) | (simp only [zra, Act.put, List.setIfInBounds_toArray, List.set_cons_zero, List.set_cons_succ]; rfl)) (hJ3 (v215) _ ⟨(uR HO216), (uK BK209), sB⟩)
        skip
        refine Kd.R_make_step k80 _ 80 (by rfl) (N := 25) rfl 40 _ _ rfl t210 rfl rfl Try.underlying40 (.agg #[(.int .i8 0), (.int .i8 0), (.int .i8 0)]) 3 zqe rfl (by decide) (by omega) z80 (ok := fun _ => True) (okp := fun _ => True) (zhc _ _ _ z80 ) (fun _ hk => hk) trivial (of_decide_eq_true (by first | (with_reducible assumption) | assumption)) (Nat.le_trans (Nat.mul_le_mul_right _ (of_decide_eq_true (by first | (with_reducible assumption) | assumption) : t210.toNat ≤ 93824992236885)) (by omega)) (Below.refl _ _) (Nat.le_refl _) ?_
        intro v218 w10 ho11 hb hg_ hnew_
        clear hg_ hnew_
        (first | rw [← Ny217.out] at ho11 | (simp only [Int.reduceToNat] at ho11; rw [← Ny217.out] at ho11))
        have n0_ := za.mk (Kd.R_lower ho11 (zaa sB))
        have n1_ := dK BK209 hb
        have n2_ := za.mk (zh sB hb)
        clear BK209
        clear HB
        have HO219 := n0_
        have BK209 := n1_
        have HB := n2_
        clear n0_ n1_ n2_
        clear hb ho11
        refine hK.out _ _ trivial (fun hHeld => ?_)
        clear hK K
        refine zma (a' := ?_) ?_ ?_
        rotate_left
        ·show Act.put _ (some 25) _ = _
         simp only [Act.put, List.setIfInBounds_toArray, List.set_cons_zero, List.set_cons_succ, zz, zy]
         rfl
        exact zma (by first | (simp only [zra, Act.put, List.setIfInBounds_toArray, List.set_cons_zero, List.set_cons_succ]; done) | (simp only [zra, Act.put, List.setIfInBounds_toArray, List.set_cons_zero, List.set_cons_succ]; rfl)) (hJ5 (v218) _ ⟨(uR HO219), (uK BK209), sB⟩)
       skip
       rintro v218 w12 ⟨h0_, h1_, h2_⟩
       have n0_ : za (Kd.R k80 80 w12 w.heap.size (fun _ => True) v218 y217) := ⟨h0_⟩
       have n1_ : za (w12.heap[gb209]? = some (.cells #[.slice A0_0 l0_0.length c0_0, .int .i16 a0_1, .int .i16 a0_2, .int .i16 a0_3, .int .i16 a0_4, .bool a0_5] 29 (0, 0))) := ⟨h1_⟩
       have n2_ : za (Below w.heap.size w w12) := ⟨h2_⟩
       clear BK209
       clear HB
       clear h0_ h1_ h2_
       have HO219 := n0_
       have BK209 := n1_
       have HB := n2_
       clear n0_ n1_ n2_
       have hHeld := trivial
       refine zma (a' := ?_) ?_ ?_
       rotate_left
       ·simp only [zra, Act.put, List.setIfInBounds_toArray, List.set_cons_zero, List.set_cons_succ]
        rfl
       refine two_ (i := 1) (j := 3) (Ni := some 21) (Nj := some 23) #[true, true, true, false, true, true, false, false, false] #[true, false, true, true, true, true, false, false, false] rfl rfl rfl rfl (two_of HT_.out (by kernel_rfl)) (by decide) (by decide) (fun K hK => ?_) (fun K hK => ?_)
       ·skip
        refine Kd.R_make_step (Kd.int .i16) _ 25 (by rfl) (N := 21) rfl 24 _ _ rfl t210 rfl rfl Try.underlying24 (.int .i16 0) 2 info25 rfl (by decide) (by omega) 0 (ok := fun _ => True) (okp := fun _ => True) rfl (fun _ hk => hk) trivial (of_decide_eq_true (by first | (with_reducible assumption) | assumption)) (Nat.le_trans (Nat.mul_le_mul_right _ (of_decide_eq_true (by first | (with_reducible assumption) | assumption) : t210.toNat ≤ 140737488355328)) (by omega)) (Below.refl _ _) (Nat.le_refl _) ?_
        intro v212 w13 ho14 hb hg_ hnew_
        clear hg_ hnew_
        (first | rw [← Ny211.out] at ho14 | (simp only [Int.reduceToNat] at ho14; rw [← Ny211.out] at ho14))
        have n0_ := dR HO219 hb
        have n1_ := za.mk (Kd.R_lower ho14 (zaa sB))
        have n2_ := dK BK209 hb
        have n3_ := za.mk (zh sB hb)
        clear HO219
        clear BK209
        clear HB
        have HO219 := n0_
        have HO213 := n1_
        have BK209 := n2_
        have HB := n3_
        clear n0_ n1_ n2_ n3_
        clear hb ho14
        refine hK.out _ _ trivial (fun hHeld => ?_)
        clear hK K
        refine zma (a' := ?_) ?_ ?_
        rotate_left
        ·show Act.put _ (some 21) _ = _
         simp only [Act.put, List.setIfInBounds_toArray, List.set_cons_zero, List.set_cons_succ, zz, zy]
         rfl
        exact zma (by first | (simp only [zra, Act.put, List.setIfInBounds_toArray, List.set_cons_zero, List.set_cons_succ]; done) | (simp only [zra, Act.put, List.setIfInBounds_toArray, List.set_cons_zero, List.set_cons_succ]; rfl)) (hJ1_5 (v212, v218) _ ⟨(uR HO213), (uR HO219), (uK BK209), sB⟩)
       skip
       refine Kd.R_make_step (Kd.int .i64) _ 2 (by rfl) (N := 23) rfl 65 _ _ rfl t210 rfl rfl Try.underlying65 (.int .i64 0) 8 info2 rfl (by decide) (by omega) 0 (ok := fun _ => True) (okp := fun _ => True) rfl (fun _ hk => hk) trivial (of_decide_eq_true (by first | (with_reducible assumption) | assumption)) (Nat.le_trans (Nat.mul_le_mul_right _ (of_decide_eq_true (by first | (with_reducible assumption) | assumption) : t210.toNat ≤ 35184372088832)) (by omega)) (Below.refl _ _) (Nat.le_refl _) ?_
       intro v215 w13 ho14 hb hg_ hnew_
       clear hg_ hnew_
       (first | rw [← Ny214.out] at ho14 | (simp only [Int.reduceToNat] at ho14; rw [← Ny214.out] at ho14))
       have n0_ := dR HO219 hb
       have n1_ := za.mk (Kd.R_lower ho14 (zaa sB))
       have n2_ := dK BK209 hb
       have n3_ := za.mk (zh sB hb)
       clear HO219
       clear BK209
       clear HB
       have HO219 := n0_
       have HO216 := n1_
       have BK209 := n2_
       have HB := n3_
       clear n0_ n1_ n2_ n3_
       clear hb ho14
       refine hK.out _ _ trivial (fun hHeld => ?_)
       clear hK K
       refine zma (a' := ?_) ?_ ?_
       rotate_left
       ·show Act.put _ (some 23) _ = _
        simp only [Act.put, List.setIfInBounds_toArray, List.set_cons_zero, List.set_cons_succ, zz, zy]
        rfl
       exact zma (by first | (simp only [zra, Act.put, List.setIfInBounds_toArray, List.set_cons_zero, List.set_cons_succ]; done) | (simp only [zra, Act.put, List.setIfInBounds_toArray, List.set_cons_zero, List.set_cons_succ]; rfl)) (hJ3_5 (v215, v218) _ ⟨(uR HO216), (uR HO219), (uK BK209), sB⟩)
      skip
      rintro v215 w12 ⟨h0_, h1_, h2_⟩
      have n0_ : za (Kd.R (Kd.int .i64) 2 w12 w.heap.size (fun _ => True) v215 y214) := ⟨h0_⟩
      have n1_ : za (w12.heap[gb209]? = some (.cells #[.slice A0_0 l0_0.length c0_0, .int .i16 a0_1, .int .i16 a0_2, .int .i16 a0_3, .int .i16 a0_4, .bool a0_5] 29 (0, 0))) := ⟨h1_⟩
      have n2_ : za (Below w.heap.size w w12) := ⟨h2_⟩
      clear BK209
      clear HB
      clear h0_ h1_ h2_
      have HO216 := n0_
      have BK209 := n1_
      have HB := n2_
      clear n0_ n1_ n2_
      have hHeld := trivial
      refine zma (a' := ?_) ?_ ?_
      rotate_left
      ·simp only [zra, Act.put, List.setIfInBounds_toArray, List.set_cons_zero, List.set_cons_succ]
       rfl
      refine two_ (i := 1) (j := 5) (Ni := some 21) (Nj := some 25) #[true, true, true, true, true, false, false, false, false] #[true, false, true, true, true, true, false, false, false] rfl rfl rfl rfl (two_of HT_.out (by kernel_rfl)) (by decide) (by decide) (fun K hK => ?_) (fun K hK => ?_)
      ·skip
       refine Kd.R_make_step (Kd.int .i16) _ 25 (by rfl) (N := 21) rfl 24 _ _ rfl t210 rfl rfl Try.underlying24 (.int .i16 0) 2 info25 rfl (by decide) (by omega) 0 (ok := fun _ => True) (okp := fun _ => True) rfl (fun _ hk => hk) trivial (of_decide_eq_true (by first | (with_reducible assumption) | assumption)) (Nat.le_trans (Nat.mul_le_mul_right _ (of_decide_eq_true (by first | (with_reducible assumption) | assumption) : t210.toNat ≤ 140737488355328)) (by omega)) (Below.refl _ _) (Nat.le_refl _) ?_
       intro v212 w13 ho14 hb hg_ hnew_
       clear hg_ hnew_
       (first | rw [← Ny211.out] at ho14 | (simp only [Int.reduceToNat] at ho14; rw [← Ny211.out] at ho14))
       have n0_ := dR HO216 hb
       have n1_ := za.mk (Kd.R_lower ho14 (zaa sB))
       have n2_ := dK BK209 hb
       have n3_ := za.mk (zh sB hb)
       clear HO216
       clear BK209
       clear HB
       have HO216 := n0_
       have HO213 := n1_
       have BK209 := n2_
       have HB := n3_
       clear n0_ n1_ n2_ n3_
       clear hb ho14
       refine hK.out _ _ trivial (fun hHeld => ?_)
       clear hK K
       refine zma (a' := ?_) ?_ ?_
       rotate_left
       ·show Act.put _ (some 21) _ = _
        simp only [Act.put, List.setIfInBounds_toArray, List.set_cons_zero, List.set_cons_succ, zz, zy]
        rfl
       exact zma (by first | (simp only [zra, Act.put, List.setIfInBounds_toArray, List.set_cons_zero, List.set_cons_succ]; done) | (simp only [zra, Act.put, List.setIfInBounds_toArray, List.set_cons_zero, List.set_cons_succ]; rfl)) (hJ1_3 (v212, v215) _ ⟨(uR HO213), (uR HO216), (uK BK209), sB⟩)
      skip
      refine Kd.R_make_step k80 _ 80 (by rfl) (N := 25) rfl 40 _ _ rfl t210 rfl rfl Try.underlying40 (.agg #[(.int .i8 0), (.int .i8 0), (.int .i8 0)]) 3 zqe rfl (by decide) (by omega) z80 (ok := fun _ => True) (okp := fun _ => True) (zhc _ _ _ z80 ) (fun _ hk => hk) trivial (of_decide_eq_true (by first | (with_reducible assumption) | assumption)) (Nat.le_trans (Nat.mul_le_mul_right _ (of_decide_eq_true (by first | (with_reducible assumption) | assumption) : t210.toNat ≤ 93824992236885)) (by omega)) (Below.refl _ _) (Nat.le_refl _) ?_
      intro v218 w13 ho14 hb hg_ hnew_
      clear hg_ hnew_
      (first | rw [← Ny217.out] at ho14 | (simp only [Int.reduceToNat] at ho14; rw [← Ny217.out] at ho14))
      have n0_ := dR HO216 hb
      have n1_ := za.mk (Kd.R_lower ho14 (zaa sB))
      have n2_ := dK BK209 hb
      have n3_ := za.mk (zh sB hb)
      clear HO216
      clear BK209
      clear HB
      have HO216 := n0_
      have HO219 := n1_
      have BK209 := n2_
      have HB := n3_
      clear n0_ n1_ n2_ n3_
      clear hb ho14
      refine hK.out _ _ trivial (fun hHeld => ?_)
      clear hK K
      refine zma (a' := ?_) ?_ ?_
      rotate_left
      ·show Act.put _ (some 25) _ = _
       simp only [Act.put, List.setIfInBounds_toArray, List.set_cons_zero, List.set_cons_succ, zz, zy]
       rfl
      exact zma (by first | (simp only [zra, Act.put, List.setIfInBounds_toArray, List.set_cons_zero, List.set_cons_succ]; done) | (simp only [zra, Act.put, List.setIfInBounds_toArray, List.set_cons_zero, List.set_cons_succ]; rfl)) (hJ3_5 (v215, v218) _ ⟨(uR HO216), (uR HO219), (uK BK209), sB⟩)
     skip
     rintro v212 w12 ⟨h0_, h1_, h2_⟩
     have n0_ : za (Kd.R (Kd.int .i16) 25 w12 w.heap.size (fun _ => True) v212 y211) := ⟨h0_⟩
     have n1_ : za (w12.heap[gb209]? = some (.cells #[.slice A0_0 l0_0.length c0_0, .int .i16 a0_1, .int .i16 a0_2, .int .i16 a0_3, .int .i16 a0_4, .bool a0_5] 29 (0, 0))) := ⟨h1_⟩
     have n2_ : za (Below w.heap.size w w12) := ⟨h2_⟩
     clear BK209
     clear HB
     clear h0_ h1_ h2_
     have HO213 := n0_
     have BK209 := n1_
     have HB := n2_
     clear n0_ n1_ n2_
     have hHeld := trivial
     refine zma (a' := ?_) ?_ ?_
     rotate_left
     ·simp only [zra, Act.put, List.setIfInBounds_toArray, List.set_cons_zero, List.set_cons_succ]
      rfl
     refine two_ (i := 3) (j := 5) (Ni := some 23) (Nj := some 25) #[true, true, true, true, true, false, false, false, false] #[true, true, true, false, true, true, false, false, false] rfl rfl rfl rfl (two_of HT_.out (by kernel_rfl)) (by decide) (by decide) (fun K hK => ?_) (fun K hK => ?_)
     ·skip
      refine Kd.R_make_step (Kd.int .i64) _ 2 (by rfl) (N := 23) rfl 65 _ _ rfl t210 rfl rfl Try.underlying65 (.int .i64 0) 8 info2 rfl (by decide) (by omega) 0 (ok := fun _ => True) (okp := fun _ => True) rfl (fun _ hk => hk) trivial (of_decide_eq_true (by first | (with_reducible assumption) | assumption)) (Nat.le_trans (Nat.mul_le_mul_right _ (of_decide_eq_true (by first | (with_reducible assumption) | assumption) : t210.toNat ≤ 35184372088832)) (by omega)) (Below.refl _ _) (Nat.le_refl _) ?_
      intro v215 w13 ho14 hb hg_ hnew_
      clear hg_ hnew_
      (first | rw [← Ny214.out] at ho14 | (simp only [Int.reduceToNat] at ho14; rw [← Ny214.out] at ho14))
      have n0_ := dR HO213 hb
      have n1_ := za.mk (Kd.R_lower ho14 (zaa sB))
      have n2_ := dK BK209 hb
      have n3_ := za.mk (zh sB hb)
      clear HO213
      clear BK209
      clear HB
      have HO213 := n0_
      have HO216 := n1_
      have BK209 := n2_
      have HB := n3_
      clear n0_ n1_ n2_ n3_
      clear hb ho14
      refine hK.out _ _ trivial (fun hHeld => ?_)
      clear hK K
      refine zma (a' := ?_) ?_ ?_
      rotate_left
      ·show Act.put _ (some 23) _ = _
       simp only [Act.put, List.setIfInBounds_toArray, List.set_cons_zero, List.set_cons_succ, zz, zy]
       rfl
      exact zma (by first | (simp only [zra, Act.put, List.setIfInBounds_toArray, List.set_cons_zero, List.set_cons_succ]; done) | (simp only [zra, Act.put, List.setIfInBounds_toArray, List.set_cons_zero, List.set_cons_succ]; rfl)) (hJ1_3 (v212, v215) _ ⟨(uR HO213), (uR HO216), (uK BK209), sB⟩)
     skip
     refine Kd.R_make_step k80 _ 80 (by rfl) (N := 25) rfl 40 _ _ rfl t210 rfl rfl Try.underlying40 (.agg #[(.int .i8 0), (.int .i8 0), (.int .i8 0)]) 3 zqe rfl (by decide) (by omega) z80 (ok := fun _ => True) (okp := fun _ => True) (zhc _ _ _ z80 ) (fun _ hk => hk) trivial (of_decide_eq_true (by first | (with_reducible assumption) | assumption)) (Nat.le_trans (Nat.mul_le_mul_right _ (of_decide_eq_true (by first | (with_reducible assumption) | assumption) : t210.toNat ≤ 93824992236885)) (by omega)) (Below.refl _ _) (Nat.le_refl _) ?_
     intro v218 w13 ho14 hb hg_ hnew_
     clear hg_ hnew_
     (first | rw [← Ny217.out] at ho14 | (simp only [Int.reduceToNat] at ho14; rw [← Ny217.out] at ho14))
     have n0_ := dR HO213 hb
     have n1_ := za.mk (Kd.R_lower ho14 (zaa sB))
     have n2_ := dK BK209 hb
     have n3_ := za.mk (zh sB hb)
     clear HO213
     clear BK209
     clear HB
     have HO213 := n0_
     have HO219 := n1_
     have BK209 := n2_
     have HB := n3_
     clear n0_ n1_ n2_ n3_
     clear hb ho14
     refine hK.out _ _ trivial (fun hHeld => ?_)
     clear hK K
     refine zma (a' := ?_) ?_ ?_
     rotate_left
     ·show Act.put _ (some 25) _ = _
      simp only [Act.put, List.setIfInBounds_toArray, List.set_cons_zero, List.set_cons_succ, zz, zy]
      rfl
     exact zma (by first | (simp only [zra, Act.put, List.setIfInBounds_toArray, List.set_cons_zero, List.set_cons_succ]; done) | (simp only [zra, Act.put, List.setIfInBounds_toArray, List.set_cons_zero, List.set_cons_succ]; rfl)) (hJ1_5 (v212, v218) _ ⟨(uR HO213), (uR HO219), (uK BK209), sB⟩)
    skip
    rintro ⟨v215, v218⟩ w14 ⟨h0_, h1_, h2_, h3_⟩
    have n0_ : za (Kd.R (Kd.int .i64) 2 w14 w.heap.size (fun _ => True) v215 y214) := ⟨h0_⟩
    have n1_ : za (Kd.R k80 80 w14 w.heap.size (fun _ => True) v218 y217) := ⟨h1_⟩
    have n2_ : za (w14.heap[gb209]? = some (.cells #[.slice A0_0 l0_0.length c0_0, .int .i16 a0_1, .int .i16 a0_2, .int .i16 a0_3, .int .i16 a0_4, .bool a0_5] 29 (0, 0))) := ⟨h2_⟩
    have n3_ : za (Below w.heap.size w w14) := ⟨h3_⟩
    clear BK209
    clear HB
    clear h0_ h1_ h2_ h3_
    have HO216 := n0_
    have HO219 := n1_
    have BK209 := n2_
    have HB := n3_
    clear n0_ n1_ n2_ n3_
    have hHeld := trivial
    refine zma (a' := ?_) ?_ ?_
    rotate_left
    ·simp only [zra, Act.put, List.setIfInBounds_toArray, List.set_cons_zero, List.set_cons_succ]
     rfl
    refine one_ (i := 1) (N := some 21) #[true, true, true, true, true, true, false, false, false] rfl rfl (ztb HT_.out (by kernel_rfl)) (by decide) (fun K hK => ?_)
    refine Kd.R_make_step (Kd.int .i16) _ 25 (by rfl) (N := 21) rfl 24 _ _ rfl t210 rfl rfl Try.underlying24 (.int .i16 0) 2 info25 rfl (by decide) (by omega) 0 (ok := fun _ => True) (okp := fun _ => True) rfl (fun _ hk => hk) trivial (of_decide_eq_true (by first | (with_reducible assumption) | assumption)) (Nat.le_trans (Nat.mul_le_mul_right _ (of_decide_eq_true (by first | (with_reducible assumption) | assumption) : t210.toNat ≤ 140737488355328)) (by omega)) (Below.refl _ _) (Nat.le_refl _) ?_
    intro v212 w15 ho16 hb hg_ hnew_
    clear hg_ hnew_
    (first | rw [← Ny211.out] at ho16 | (simp only [Int.reduceToNat] at ho16; rw [← Ny211.out] at ho16))
    have n0_ := dR HO216 hb
    have n1_ := dR HO219 hb
    have n2_ := za.mk (Kd.R_lower ho16 (zaa sB))
    have n3_ := dK BK209 hb
    have n4_ := za.mk (zh sB hb)
    clear HO216
    clear HO219
    clear BK209
    clear HB
    have HO216 := n0_
    have HO219 := n1_
    have HO213 := n2_
    have BK209 := n3_
    have HB := n4_
    clear n0_ n1_ n2_ n3_ n4_
    clear hb ho16
    refine hK.out _ _ trivial (fun hHeld => ?_)
    clear hK K
    refine zma (a' := ?_) ?_ ?_
    rotate_left
    ·show Act.put _ (some 21) _ = _
     simp only [Act.put, List.setIfInBounds_toArray, List.set_cons_zero, List.set_cons_succ, zz, zy]
     rfl
    exact zma (by first | (simp only [zra, Act.put, List.setIfInBounds_toArray, List.set_cons_zero, List.set_cons_succ]; done) | (simp only [zra, Act.put, List.setIfInBounds_toArray, List.set_cons_zero, List.set_cons_succ]; rfl)) (hJ1_3_5 (v212, v215, v218) _ ⟨(uR HO213), (uR HO216), (uR HO219), (uK BK209), sB⟩)
   skip
   rintro ⟨v212, v218⟩ w14 ⟨h0_, h1_, h2_, h3_⟩
   have n0_ : za (Kd.R (Kd.int .i16) 25 w14 w.heap.size (fun _ => True) v212 y211) := ⟨h0_⟩
   have n1_ : za (Kd.R k80 80 w14 w.heap.size (fun _ => True) v218 y217) := ⟨h1_⟩
   have n2_ : za (w14.heap[gb209]? = some (.cells #[.slice A0_0 l0_0.length c0_0, .int .i16 a0_1, .int .i16 a0_2, .int .i16 a0_3, .int .i16 a0_4, .bool a0_5] 29 (0, 0))) := ⟨h2_⟩
   have n3_ : za (Below w.heap.size w w14) := ⟨h3_⟩
   clear BK209
   clear HB
   clear h0_ h1_ h2_ h3_
   have HO213 := n0_
   have HO219 := n1_
   have BK209 := n2_
   have HB := n3_
   clear n0_ n1_ n2_ n3_
   have hHeld := trivial
   refine zma (a' := ?_) ?_ ?_
   rotate_left
   ·simp only [zra, Act.put, List.setIfInBounds_toArray, List.set_cons_zero, List.set_cons_succ]
    rfl
   refine one_ (i := 3) (N := some 23) #[true, true, true, true, true, true, false, false, false] rfl rfl (ztb HT_.out (by kernel_rfl)) (by decide) (fun K hK => ?_)
   refine Kd.R_make_step (Kd.int .i64) _ 2 (by rfl) (N := 23) rfl 65 _ _ rfl t210 rfl rfl Try.underlying65 (.int .i64 0) 8 info2 rfl (by decide) (by omega) 0 (ok := fun _ => True) (okp := fun _ => True) rfl (fun _ hk => hk) trivial (of_decide_eq_true (by first | (with_reducible assumption) | assumption)) (Nat.le_trans (Nat.mul_le_mul_right _ (of_decide_eq_true (by first | (with_reducible assumption) | assumption) : t210.toNat ≤ 35184372088832)) (by omega)) (Below.refl _ _) (Nat.le_refl _) ?_
   intro v215 w15 ho16 hb hg_ hnew_
   clear hg_ hnew_
   (first | rw [← Ny214.out] at ho16 | (simp only [Int.reduceToNat] at ho16; rw [← Ny214.out] at ho16))
   have n0_ := dR HO213 hb
   have n1_ := dR HO219 hb
   have n2_ := za.mk (Kd.R_lower ho16 (zaa sB))
   have n3_ := dK BK209 hb
   have n4_ := za.mk (zh sB hb)
   clear HO213
   clear HO219
   clear BK209
   clear HB
   have HO213 := n0_
   have HO219 := n1_
   have HO216 := n2_
   have BK209 := n3_
   have HB := n4_
   clear n0_ n1_ n2_ n3_ n4_
   clear hb ho16
   refine hK.out _ _ trivial (fun hHeld => ?_)
   clear hK K
   refine zma (a' := ?_) ?_ ?_
   rotate_left
   ·show Act.put _ (some 23) _ = _
    simp only [Act.put, List.setIfInBounds_toArray, List.set_cons_zero, List.set_cons_succ, zz, zy]
    rfl
   exact zma (by first | (simp only [zra, Act.put, List.setIfInBounds_toArray, List.set_cons_zero, List.set_cons_succ]; done) | (simp only [zra, Act.put, List.setIfInBounds_toArray, List.set_cons_zero, List.set_cons_succ]; rfl)) (hJ1_3_5 (v212, v215, v218) _ ⟨(uR HO213), (uR HO216), (uR HO219), (uK BK209), sB⟩)
  skip
  rintro ⟨v212, v215⟩ w14 ⟨h0_, h1_, h2_, h3_⟩
  have n0_ : za (Kd.R (Kd.int .i16) 25 w14 w.heap.size (fun _ => True) v212 y211) := ⟨h0_⟩
  have n1_ : za (Kd.R (Kd.int .i64) 2 w14 w.heap.size (fun _ => True) v215 y214) := ⟨h1_⟩
  have n2_ : za (w14.heap[gb209]? = some (.cells #[.slice A0_0 l0_0.length c0_0, .int .i16 a0_1, .int .i16 a0_2, .int .i16 a0_3, .int .i16 a0_4, .bool a0_5] 29 (0, 0))) := ⟨h2_⟩
  have n3_ : za (Below w.heap.size w w14) := ⟨h3_⟩
  clear BK209
  clear HB
  clear h0_ h1_ h2_ h3_
  have HO213 := n0_
  have HO216 := n1_
  have BK209 := n2_
  have HB := n3_
  clear n0_ n1_ n2_ n3_
  have hHeld := trivial
  refine zma (a' := ?_) ?_ ?_
  rotate_left
  ·simp only [zra, Act.put, List.setIfInBounds_toArray, List.set_cons_zero, List.set_cons_succ]
   rfl
  refine one_ (i := 5) (N := some 25) #[true, true, true, true, true, true, false, false, false] rfl rfl (ztb HT_.out (by kernel_rfl)) (by decide) (fun K hK => ?_)
  refine Kd.R_make_step k80 _ 80 (by rfl) (N := 25) rfl 40 _ _ rfl t210 rfl rfl Try.underlying40 (.agg #[(.int .i8 0), (.int .i8 0), (.int .i8 0)]) 3 zqe rfl (by decide) (by omega) z80 (ok := fun _ => True) (okp := fun _ => True) (zhc _ _ _ z80 ) (fun _ hk => hk) trivial (of_decide_eq_true (by first | (with_reducible assumption) | assumption)) (Nat.le_trans (Nat.mul_le_mul_right _ (of_decide_eq_true (by first | (with_reducible assumption) | assumption) : t210.toNat ≤ 93824992236885)) (by omega)) (Below.refl _ _) (Nat.le_refl _) ?_
  intro v218 w15 ho16 hb hg_ hnew_
  clear hg_ hnew_
  (first | rw [← Ny217.out] at ho16 | (simp only [Int.reduceToNat] at ho16; rw [← Ny217.out] at ho16))
  have n0_ := dR HO213 hb
  have n1_ := dR HO216 hb
  have n2_ := za.mk (Kd.R_lower ho16 (zaa sB))
  have n3_ := dK BK209 hb
  have n4_ := za.mk (zh sB hb)
  clear HO213
  clear HO216
  clear BK209
  clear HB
  have HO213 := n0_
  have HO216 := n1_
  have HO219 := n2_
  have BK209 := n3_
  have HB := n4_
  clear n0_ n1_ n2_ n3_ n4_
  clear hb ho16
  refine hK.out _ _ trivial (fun hHeld => ?_)
  clear hK K
  refine zma (a' := ?_) ?_ ?_
  rotate_left
  ·show Act.put _ (some 25) _ = _
   simp only [Act.put, List.setIfInBounds_toArray, List.set_cons_zero, List.set_cons_succ, zz, zy]
   rfl
  exact zma (by first | (simp only [zra, Act.put, List.setIfInBounds_toArray, List.set_cons_zero, List.set_cons_succ]; done) | (simp only [zra, Act.put, List.setIfInBounds_toArray, List.set_cons_zero, List.set_cons_succ]; rfl)) (hJ1_3_5 (v212, v215, v218) _ ⟨(uR HO213), (uR HO216), (uR HO219), (uK BK209), sB⟩)
 rintro ⟨v212, v215, v218⟩ w16 ⟨h0_, h1_, h2_, h3_, h4_⟩
 have n0_ : za (Kd.R (Kd.int .i16) 25 w16 w.heap.size (fun _ => True) v212 y211) := ⟨h0_⟩
 have n1_ : za (Kd.R (Kd.int .i64) 2 w16 w.heap.size (fun _ => True) v215 y214) := ⟨h1_⟩
 have n2_ : za (Kd.R k80 80 w16 w.heap.size (fun _ => True) v218 y217) := ⟨h2_⟩
 have n3_ : za (w16.heap[gb209]? = some (.cells #[.slice A0_0 l0_0.length c0_0, .int .i16 a0_1, .int .i16 a0_2, .int .i16 a0_3, .int .i16 a0_4, .bool a0_5] 29 (0, 0))) := ⟨h3_⟩
 have n4_ : za (Below w.heap.size w w16) := ⟨h4_⟩
 clear BK209
 clear HB
 clear h0_ h1_ h2_ h3_ h4_
 have HO213 := n0_
 have HO216 := n1_
 have HO219 := n2_
 have BK209 := n3_
 have HB := n4_
 clear n0_ n1_ n2_ n3_ n4_
 have hHeld := trivial
 refine zma (a' := ?_) ?_ ?_
 rotate_left
 ·simp only [zra, Act.put, List.setIfInBounds_toArray, List.set_cons_zero, List.set_cons_succ]
  rfl
 refine zfa (i := 6) (N := some 26) (v := .agg #[v212, v215, v218, .slice none 0 0]) (a' := ?_) #[true, true, true, true, true, true, true, false, false] rfl rfl (zda HT_.out (by kernel_rfl)) (fun _ _ _ h => h) (Or.inl ⟨by rfl, ?_⟩) ?_ ?_
 ·obtain ⟨_, _, rfl⟩ := Kd.R_slice HO213.out
  obtain ⟨_, _, rfl⟩ := Kd.R_slice HO216.out
  obtain ⟨_, _, rfl⟩ := Kd.R_slice HO219.out
  intro w'
  go_simp
  first | done | rfl
 rotate_left
 ·simp only [Act.put, List.setIfInBounds_toArray, List.set_cons_zero, List.set_cons_succ, zz, zy]
  rfl
 refine one_ (i := 7) (N := some 27) #[true, true, true, true, true, true, true, true, false] rfl rfl (ztb HT_.out (by kernel_rfl)) (by decide) (fun K hK => ?_)
 refine zed ?hg (N := 27) ?hd (cs := #[v212, v215, v218, .slice none 0 0]) (t := 87) ?hr ?_; (case hd => rfl); (case hg => rfl); (case hr => obtain ⟨_, _, rfl⟩ := Kd.R_slice HO213.out; obtain ⟨_, _, rfl⟩ := Kd.R_slice HO216.out; obtain ⟨_, _, rfl⟩ := Kd.R_slice HO219.out; first | (go_simp; done) | (go_simp; rfl))
 intro gb220 hg w17 hbox hb
 have n0_ := dR HO213 hb
 have n1_ := dR HO216 hb
 have n2_ := dR HO219 hb
 have n3_ := dK BK209 hb
 have n4_ := za.mk (zh sB hb)
 have n5_ := za.mk hbox
 have n6_ := gB hg
 have n7_ := gB hg
 have n8_ := nK hg BK209
 have n9_ := za.mk (nK hg BK209).out.symm
 clear HO213
 clear HO216
 clear HO219
 clear BK209
 clear HB
 have HO213 := n0_
 have HO216 := n1_
 have HO219 := n2_
 have BK209 := n3_
 have HB := n4_
 have BK220 := n5_
 have GW220 := n6_
 have GE220 := n7_
 have NB209_220 := n8_
 have NB220_209 := n9_
 clear n0_ n1_ n2_ n3_ n4_ n5_ n6_ n7_ n8_ n9_
 clear hb hbox hg
 refine hK.out _ _ trivial (fun hHeld => ?_)
 clear hK K
 refine zma (a' := ?_) ?_ ?_
 rotate_left
 ·show Act.put _ (some 27) _ = _
  simp only [Act.put, List.setIfInBounds_toArray, List.set_cons_zero, List.set_cons_succ, zz, zy]
  rfl
 refine zfa (i := 8) (N := some 4) (v := ?_) (a' := ?_) #[true, true, true, true, true, true, true, true, true] rfl rfl (zda HT_.out (by kernel_rfl)) (fun _ _ _ h => h) (Or.inl ⟨by rfl, ?_⟩) ?_ ?_
 rotate_left
 ·intro w'
  go_simp
  with_reducible rfl
 rotate_left
 ·simp only [Act.put, List.setIfInBounds_toArray, List.set_cons_zero, List.set_cons_succ, zz, zy]
  rfl
 refine zae (zfc HT_.out (by kernel_rfl)) ?_
 try go_wp2
 go_loopg [5] k (fun kq v5 w' => ∃ (x5_1 : Int) (x154_1 : List Int), v5 = .int .i64 x5_1 ∧ za (spec_l02Find.l0 kq t210 x5_1 x154_1 y214 y217 l0_0 a0_1 a0_2 a0_3 a0_4 a0_5 = some r) ∧ za (kq ≤ k) ∧ za (Kd.R (Kd.int .i16) 25 w' w.heap.size (fun _ => True) v212 x154_1) ∧ za (Kd.R (Kd.int .i64) 2 w' w.heap.size (fun _ => True) v215 y214) ∧ za (Kd.R k80 80 w' w.heap.size (fun _ => True) v218 y217) ∧ za (w'.heap[gb209]? = some (.cells #[(.slice A0_0 l0_0.length c0_0), .int .i16 a0_1, .int .i16 a0_2, .int .i16 a0_3, .int .i16 a0_4, .bool a0_5] 29 (0, 0))) ∧ za (w'.heap[gb220]? = some (.cells #[v212, v215, v218, .slice none 0 0] 87 (0, 0))) ∧ za (Below w.heap.size w w'))
 case atStart => exact ⟨(0), (y211), (by first | rfl | (simp; done) | (simp [*]; done)), H', ⟨Nat.le_refl _⟩, ⟨uR HO213⟩, ⟨uR HO216⟩, ⟨uR HO219⟩, ⟨uK BK209⟩, ⟨uK BK220⟩, ⟨sB⟩⟩
 case round =>
  clear H'
  try clear p2
  try clear c3
  try clear c3b0
  try clear c3b1
  try clear c4
  try clear c4b0
  try clear c4b1
  try clear c5
  try clear c5b0
  try clear c5b1
  try clear c6
  try clear c6b0
  try clear c6b1
  try clear c9
  try clear hcz8_0 hcz8_1 hcz8_2 hcz8_3 hcz8_1 hcz8_2 hcz8_3 hcz8_4 hcz8_5
  try clear hfz8_0 hfz8_1 hfz8_2 hfz8_3 hfz8_1 hfz8_2 hfz8_3 hfz8_4 hfz8_5
  obtain ⟨x5_1, x154_1, rfl, HA, HK1, HO_154, HO_155, HO_156, BK209, BK220, HB⟩ := hrel
  cases gk with
  | zero => exact absurd HA.out (by simp [spec_l02Find.l0])
  | succ k1 =>
   have H := HA.out
   clear HA
   simp only [spec_l02Find.l0] at H
   by_cases c18 : x5_1 < t210
   ·rw [if_pos c18] at H
    have c18b0 : decide (x5_1 < t210) = true := decide_eq_true c18
    clear c18
    by_cases c19 : 0 ≤ x5_1
    rotate_left
    ·rw [if_neg c19] at H
     exact absurd H (by simp)
    rw [if_pos c19] at H
    have c19b0 : decide (0 ≤ x5_1) = true := decide_eq_true c19
    clear c19
    by_cases c20 : x5_1 < (x154_1.length : Int)
    rotate_left
    ·rw [if_neg c20] at H
     exact absurd H (by simp)
    rw [if_pos c20] at H
    have c20b0 : decide (x5_1 < (x154_1.length : Int)) = true := decide_eq_true c20
    clear c20
    obtain ⟨y221, hy221⟩ : ∃ y_ : List Int, y_ = (x154_1.set (x5_1 : Int).toNat (-1)) := ⟨_, rfl⟩
    replace H : (spec_l02Find.l0 k1 t210 (wrap64 (x5_1 + 1)) y221 y214 y217 l0_0 a0_1 a0_2 a0_3 a0_4 a0_5) = some r := by first | (rw [hy221]; with_reducible exact H) | (have H2_ := (Option.bind_some _ _).symm.trans H; rw [hy221]; with_reducible exact H2_) | (have H2_ := (Option.bind_some _ _).symm.trans H; with_reducible exact H2_) | with_reducible exact H | (rw [hy221]; exact H) | exact H
    have Ny221 := za.mk hy221
    clear hy221
    have H' := za.mk H
    clear H
    have hnb22 := NB220_209.out
    have hnc22 := NB209_220.out
    have hcz23_0 := zic BK220.out
    have hcz23_1 := zuc BK220.out
    have hcz23_2 := zmc BK220.out
    have hcz23_3 := zkc BK220.out
    have hfz23_0 := zg BK220.out 0
    have hfz23_3 := zg BK220.out 3
    have p21 : 0 ≤ (x5_1 : Int) := of_decide_eq_true (by first | (with_reducible assumption) | assumption)
    have q21 : (x5_1 : Int) < ((x154_1.length : Int) : Int) := of_decide_eq_true (by first | (with_reducible assumption) | assumption)
    obtain ⟨go21, co21, eo21, gb21, gl21, cl21, HG21⟩ := Kd.R_form HO_154.out (by omega)
    (first | cases eo21 | (injection eo21 with ea_ en_ ec_; (first | subst ea_ | (injection ea_ with ea_; subst ea_)); subst ec_; clear en_))
    have GB21 := za.mk gb21
    have GG21 := za.mk HG21
    clear gb21 gl21 HG21
    obtain ⟨hx21_0, hf21_0⟩ := Kd.R_celln 0 HO_154.out (x5_1 : Int) p21 q21
    replace p21 := eq_true p21
    replace q21 := eq_true q21
    have HP24 := Kd.R_putg HO_154.out (x5_1 : Int) (-1)
    go_wp2_with (first | ((with_reducible refine zza (t := 25) (p := 38) rfl ?_); refine zya (t := 25) (p := 38) (v := ?vo_w25) (w1 := (wr.setCell ⟨go21, (x5_1 : Int).toNat, none⟩ (.int .i16 (-1)))) ?hg ?ho ?hn ?hr ?_; (case ho => rfl); (case hg => rfl); (case hn => rfl); (case hr => first | (go_simp; done) | (go_simp; rfl)); intro w25 hw; have hg : wr.grownBy w25 (some go21) := (by rw [hw]; exact HP24.2); have hp_ : Kd.R (Kd.int .i16) 25 w25 w.heap.size (fun _ => True) (.slice (some ⟨go21, 0, none⟩) x154_1.length co21) y221 := (by rw [hw, Ny221.out]; exact HP24.1); clear HP24; have n0_ := za.mk hp_; have n1_ := za.mk (Kd.R_over' (v := (.slice (some ⟨go21, 0, none⟩) x154_1.length co21)) (uR HO_155) (Kd.R_typed HO_154.out) (by decide) hg); have n2_ := za.mk (Kd.R_over' (v := (.slice (some ⟨go21, 0, none⟩) x154_1.length co21)) (uR HO_156) (Kd.R_typed HO_154.out) (by decide) hg); have n3_ := za.mk (zga (g := gb209) (o := .cells #[.slice A0_0 l0_0.length c0_0, .int .i16 a0_1, .int .i16 a0_2, .int .i16 a0_3, .int .i16 a0_4, .bool a0_5] 29 (0, 0)) (uK BK209) hg (Kd.R_ne HO_154.out BK209.out (by decide))); have n4_ := za.mk (zdc BK220.out (by intro h_; (with_reducible repeat (first | refine ze ?_ _ | refine zf ?_ | refine zc ?_ _)); exact h_) hg (Kd.R_ne HO_154.out BK220.out (by decide))); have n5_ := za.mk ((by rw [hw]; exact zt (HB.out) GB21.out : Below w.heap.size w w25)); clear HO_154; clear HO_155; clear HO_156; clear BK209; clear BK220; clear HB; have HO_154 := n0_; have HO_155 := n1_; have HO_156 := n2_; have BK209 := n3_; have BK220 := n4_; have HB := n5_; clear n0_ n1_ n2_ n3_ n4_ n5_; clear hg hw hp_))
    go_roundg k1
    case measure => have := HK1.out; omega
    case rel => exact ⟨(wrap64 (x5_1 + 1)), (y221), (by first | rfl | (simp; done) | (simp [*]; done)), H', ⟨by have := HK1.out; omega⟩, ⟨uR HO_154⟩, ⟨uR HO_155⟩, ⟨uR HO_156⟩, ⟨uK BK209⟩, ⟨uK BK220⟩, ⟨sB⟩⟩
   rw [if_neg c18] at H
   have c18b0 : decide (x5_1 < t210) = false := decide_eq_false c18
   clear c18
   replace H := Option.bind_eq_some_iff.mp H
   obtain ⟨t222, A260, H⟩ := H
   replace H : (if 0 ≤ t222 then (if t222 < (x154_1.length : Int) then (if ([] : List Int).length < 17592186044416 then ((spec_l02All.f k1 l0_0 a0_1 a0_2 a0_3 a0_4 a0_5).bind fun t227 => (spec_l02Find.l1 k1 t227 0 (x154_1.set (t222 : Int).toNat 0) y214 y217 (([] : List Int) ++ [t222]) l0_0 a0_1 a0_2 a0_3 a0_4 a0_5)) else (none)) else (none)) else (none)) = some r := H
   have A26 := za.mk A260
   clear A260
   by_cases c27 : 0 ≤ t222
   rotate_left
   ·rw [if_neg c27] at H
    exact absurd H (by simp)
   rw [if_pos c27] at H
   have c27b0 : decide (0 ≤ t222) = true := decide_eq_true c27
   clear c27
   by_cases c28 : t222 < (x154_1.length : Int)
   rotate_left
   ·rw [if_neg c28] at H
    exact absurd H (by simp)
   rw [if_pos c28] at H
   have c28b0 : decide (t222 < (x154_1.length : Int)) = true := decide_eq_true c28
   clear c28
   obtain ⟨y223, hy223⟩ : ∃ y_ : List Int, y_ = (x154_1.set (t222 : Int).toNat 0) := ⟨_, rfl⟩
   replace H : (if ([] : List Int).length < 17592186044416 then ((spec_l02All.f k1 l0_0 a0_1 a0_2 a0_3 a0_4 a0_5).bind fun t227 => (spec_l02Find.l1 k1 t227 0 y223 y214 y217 (([] : List Int) ++ [t222]) l0_0 a0_1 a0_2 a0_3 a0_4 a0_5)) else (none)) = some r := by first | (rw [hy223]; with_reducible exact H) | (have H2_ := (Option.bind_some _ _).symm.trans H; rw [hy223]; with_reducible exact H2_) | (have H2_ := (Option.bind_some _ _).symm.trans H; with_reducible exact H2_) | with_reducible exact H | (rw [hy223]; exact H) | exact H
   have Ny223 := za.mk hy223
   clear hy223
   by_cases c30 : ([] : List Int).length < 17592186044416
   rotate_left
   ·rw [if_neg c30] at H
    exact absurd H (by simp)
   rw [if_pos c30] at H
   have LMc30 := za.mk c30
   clear c30
   obtain ⟨y224, hy224⟩ : ∃ y_ : List Int, y_ = (([] : List Int) ++ [t222]) := ⟨_, rfl⟩
   replace H : ((spec_l02All.f k1 l0_0 a0_1 a0_2 a0_3 a0_4 a0_5).bind fun t227 => (spec_l02Find.l1 k1 t227 0 y223 y214 y217 y224 l0_0 a0_1 a0_2 a0_3 a0_4 a0_5)) = some r := by first | (rw [hy224]; with_reducible exact H) | (have H2_ := (Option.bind_some _ _).symm.trans H; rw [hy224]; with_reducible exact H2_) | (have H2_ := (Option.bind_some _ _).symm.trans H; with_reducible exact H2_) | with_reducible exact H | (rw [hy224]; exact H) | exact H
   have Ny224 := za.mk hy224
   clear hy224
   replace H := Option.bind_eq_some_iff.mp H
   obtain ⟨t227, A310, H⟩ := H
   replace H : (spec_l02Find.l1 k1 t227 0 y223 y214 y217 y224 l0_0 a0_1 a0_2 a0_3 a0_4 a0_5) = some r := H
   have A31 := za.mk A310
   clear A310
   have H' := za.mk H
   clear H
   have hnb32 := NB209_220.out
   have hnc32 := NB220_209.out
   obtain ⟨hcz33_0, hcz33_1, hcz33_2, hcz33_3, hcz33_4, hcz33_5⟩ := xc6 BK209
   obtain ⟨hfz33_0, hfz33_1, hfz33_2, hfz33_3, hfz33_4, hfz33_5⟩ := xf6 BK209
   go_wp2_with (first | ((with_reducible refine zn (f := 63) rfl ?_); refine gz (some 44) Try.func63 #[.pointer (some ⟨gb209, 0, none⟩), .agg #[.int .i16 a0_1, .int .i16 a0_2, .int .i16 a0_3, .int .i16 a0_4]] rfl rfl ?_; (with_reducible refine (spec_l02Index.calls k1 gb209 A0_0 c0_0 l0_0 a0_1 a0_2 a0_3 a0_4 a0_5 a0_1 a0_2 a0_3 a0_4 t222 _ ?side1 ?side2 ?side3 A26.out).mono ?_); (case side1 => exact uK BK209); (case side2 => exact uC HR0_0 HB); (case side3 => exact HC0_0.out); rintro e w34 ⟨rfl, hb⟩; refine ⟨_, rfl, ?_⟩; have n0_ := dR HO_154 hb; have n1_ := dR HO_155 hb; have n2_ := dR HO_156 hb; have n3_ := dK BK209 hb; have n4_ := za.mk (zdb BK220.out (by intro h_; (with_reducible repeat (first | refine ze ?_ _ | refine zf ?_ | refine zc ?_ _)); exact h_) hb); have n5_ := za.mk (zh sB hb); clear HO_154; clear HO_155; clear HO_156; clear BK209; clear BK220; clear HB; have HO_154 := n0_; have HO_155 := n1_; have HO_156 := n2_; have BK209 := n3_; have BK220 := n4_; have HB := n5_; clear n0_ n1_ n2_ n3_ n4_ n5_; try clear hb; have hcz35_0 := zic BK220.out; have hcz35_1 := zuc BK220.out; have hcz35_2 := zmc BK220.out; have hcz35_3 := zkc BK220.out; have hfz35_0 := zg BK220.out 0; have hfz35_3 := zg BK220.out 3; have p29 : 0 ≤ (t222 : Int) := of_decide_eq_true (by first | (with_reducible assumption) | assumption); have q29 : (t222 : Int) < ((x154_1.length : Int) : Int) := of_decide_eq_true (by first | (with_reducible assumption) | assumption); obtain ⟨go29, co29, eo29, gb29, gl29, cl29, HG29⟩ := Kd.R_form HO_154.out (by omega); (first | cases eo29 | (injection eo29 with ea_ en_ ec_; (first | subst ea_ | (injection ea_ with ea_; subst ea_)); subst ec_; clear en_)); have GB29 := za.mk gb29; have GG29 := za.mk HG29; clear gb29 gl29 HG29; obtain ⟨hx29_0, hf29_0⟩ := Kd.R_celln 0 HO_154.out (t222 : Int) p29 q29; replace p29 := eq_true p29; replace q29 := eq_true q29; obtain ⟨hy36_, hz36_⟩ := Kd.R_celln 0 HO_154.out (t222 : Int) (of_decide_eq_true (by first | (with_reducible assumption) | assumption)) (of_decide_eq_true (by first | (with_reducible assumption) | assumption)); have HP36 := Kd.R_putg HO_154.out (t222 : Int) 0) | ((with_reducible refine zza (t := 25) (p := 50) rfl ?_); refine zya (t := 25) (p := 50) (v := ?vo_w37) (w1 := (w34.setCell ⟨go29, (t222 : Int).toNat, none⟩ (.int .i16 0))) ?hg ?ho ?hn ?hr ?_; (case ho => rfl); (case hg => rfl); (case hn => rfl); (case hr => first | (go_simp; done) | (go_simp; rfl)); intro w37 hw; have hg : w34.grownBy w37 (some go29) := (by rw [hw]; exact HP36.2); have hp_ : Kd.R (Kd.int .i16) 25 w37 w.heap.size (fun _ => True) (.slice (some ⟨go29, 0, none⟩) x154_1.length co29) y223 := (by rw [hw, Ny223.out]; exact HP36.1); clear HP36; have n0_ := za.mk hp_; have n1_ := za.mk (Kd.R_over' (v := (.slice (some ⟨go29, 0, none⟩) x154_1.length co29)) (uR HO_155) (Kd.R_typed HO_154.out) (by decide) hg); have n2_ := za.mk (Kd.R_over' (v := (.slice (some ⟨go29, 0, none⟩) x154_1.length co29)) (uR HO_156) (Kd.R_typed HO_154.out) (by decide) hg); have n3_ := za.mk (zga (g := gb209) (o := .cells #[.slice A0_0 l0_0.length c0_0, .int .i16 a0_1, .int .i16 a0_2, .int .i16 a0_3, .int .i16 a0_4, .bool a0_5] 29 (0, 0)) (uK BK209) hg (Kd.R_ne HO_154.out BK209.out (by decide))); have n4_ := za.mk (zdc BK220.out (by intro h_; (with_reducible repeat (first | refine ze ?_ _ | refine zf ?_ | refine zc ?_ _)); exact h_) hg (Kd.R_ne HO_154.out BK220.out (by decide))); have n5_ := za.mk ((by rw [hw]; exact zt (HB.out) GB29.out : Below w.heap.size w w37)); clear HO_154; clear HO_155; clear HO_156; clear BK209; clear BK220; clear HB; have HO_154 := n0_; have HO_155 := n1_; have HO_156 := n2_; have BK209 := n3_; have BK220 := n4_; have HB := n5_; clear n0_ n1_ n2_ n3_ n4_ n5_; clear hg hw hp_; have hcz38_0 := zic BK220.out; have hcz38_1 := zuc BK220.out; have hcz38_2 := zmc BK220.out; have hcz38_3 := zkc BK220.out; have hfz38_0 := zg BK220.out 0; have hfz38_3 := zg BK220.out 3) | ((with_reducible refine zbb (b := .append) (xs := #[.tmp 55, .tmp 57]) rfl ?_); at_builtin; refine Kd.R_append (Kd.int .i64) (w0 := w) w.heap.size rfl (.tmp 55) (.tmp 57) 65 2 (.int .i64 0) 8 rfl Try.underlying65 info2 rfl (by decide) (by omega) (.slice none 0 0) ([] : List Int) t222 [.int .i64 t222] (fun k_ => some k_ ≠ (v215 : Value).ownBlock) (fun _ => False) rfl rfl ?aP (fun _ hk => hk.elim) ?aF ?aO ?aB ?aS ?aL ?_; (case aP => exact rfl); (case aB => exact sB); (case aF => exact (fun k_ hk => Kd.fresh' (Kd.R_lt (uR HO_155)) k_ hk)); (case aO => exact ((Kd.R_nil _ _ _ _ (fun k_ => some k_ ≠ (v215 : Value).ownBlock)))); (case aS => exact (zaa sB)); (case aL => have := LMc30.out; omega); intro v225 w39 ho hb hg hat; rw [← Ny224.out] at ho; obtain ⟨Av225, cv225, e_⟩ := Kd.R_slice ho; subst e_; have n0_ := za.mk (Kd.R_grown (uR HO_154) hg (fun _ _ => by simp [Value.ownBlock])); have n1_ := za.mk (Kd.R_after (Kd.R_apart_nil (uR HO_155)) hg hat); have n2_ := za.mk (Kd.R_grown (uR HO_156) hg (fun _ _ => by simp [Value.ownBlock])); have n3_ := za.mk (zga (g := gb209) (o := .cells #[.slice A0_0 l0_0.length c0_0, .int .i16 a0_1, .int .i16 a0_2, .int .i16 a0_3, .int .i16 a0_4, .bool a0_5] 29 (0, 0)) (uK BK209) hg (by simp [Value.ownBlock])); have n4_ := za.mk (zdc BK220.out (by intro h_; (with_reducible repeat (first | refine ze ?_ _ | refine zf ?_ | refine zc ?_ _)); exact h_) hg (by simp [Value.ownBlock])); have n5_ := za.mk hb; have n6_ := za.mk ho; clear HO_154; clear HO_155; clear HO_156; clear BK209; clear BK220; clear HB; have HO_154 := n0_; have HO_155 := n1_; have HO_156 := n2_; have BK209 := n3_; have BK220 := n4_; have HB := n5_; have HO226 := n6_; clear n0_ n1_ n2_ n3_ n4_ n5_ n6_; clear ho hb hg hat; have hcz40_0 := zic BK220.out; have hcz40_1 := zuc BK220.out; have hcz40_2 := zmc BK220.out; have hcz40_3 := zkc BK220.out; have hfz40_0 := zg BK220.out 0; have hfz40_3 := zg BK220.out 3) | ((with_reducible refine zn (f := 95) rfl ?_); refine gz (some 62) Try.func95 #[.pointer (some ⟨gb209, 0, none⟩)] rfl rfl ?_; (with_reducible refine (spec_l02All.calls k1 gb209 A0_0 c0_0 l0_0 a0_1 a0_2 a0_3 a0_4 a0_5 t227 _ ?side1 ?side2 ?side3 A31.out).mono ?_); (case side1 => (with_reducible repeat (first | refine ze ?_ _ | refine zf ?_ | refine zc ?_ _)); refine zm ?_ NB209_220.out _; (with_reducible repeat (first | refine ze ?_ _ | refine zf ?_ | refine zc ?_ _)); exact BK209.out); (case side2 => exact Kd.C_below HR0_0.out sB); (case side3 => exact HC0_0.out); rintro e w41 ⟨v228, rfl, ho0, hb⟩; refine ⟨_, rfl, ?_⟩; have n0_ := za.mk (Kd.R_below (uR' (Kd.R_mono (Kd.R_far (p := ⟨gb220, 3, none⟩) (Kd.R_types HO_154.out BK220.out (by decide)) (fun _ hk => hk.2) _) (fun _ h_ => h_.1))) hb); have n1_ := za.mk (Kd.R_below (uR' (Kd.R_mono (Kd.R_far (p := ⟨gb220, 3, none⟩) (Kd.R_types HO_155.out BK220.out (by decide)) (fun _ hk => hk.2) _) (fun _ h_ => h_.1))) hb); have n2_ := za.mk (Kd.R_elder' (uR' (Kd.R_mono (Kd.R_far (p := ⟨gb220, 3, none⟩) (Kd.R_types HO_156.out BK220.out (by decide)) (fun _ hk => hk.2) _) (fun _ h_ => h_.1))) (Kd.R_base ho0) hb); have n3_ := za.mk (Kd.R_below (uR' (Kd.R_mono (Kd.R_far (p := ⟨gb220, 3, none⟩) (Kd.R_types HO226.out BK220.out (by decide)) (fun _ hk => hk.2) _) (fun _ h_ => h_.1))) hb); have n4_ := za.mk (Kd.R_lower (Kd.R_new' ho0 (Kd.R_lt (uR' (Kd.R_mono (Kd.R_far (p := ⟨gb220, 3, none⟩) (Kd.R_types HO_156.out BK220.out (by decide)) (fun _ hk => hk.2) _) (fun _ h_ => h_.1))))) (zaa sB)); have n5_ := za.mk (zca (g := gb209) (o := .cells #[.slice A0_0 l0_0.length c0_0, .int .i16 a0_1, .int .i16 a0_2, .int .i16 a0_3, .int .i16 a0_4, .bool a0_5] 29 (0, 0)) (by (with_reducible repeat (first | refine ze ?_ _ | refine zf ?_ | refine zc ?_ _)); refine zm ?_ NB209_220.out _; (with_reducible repeat (first | refine ze ?_ _ | refine zf ?_ | refine zc ?_ _)); exact BK209.out) hb); have n6_ := za.mk (zca (g := gb220) (by (with_reducible repeat (first | refine ze ?_ _ | refine zf ?_ | refine zc ?_ _)); apply blk4_put; (with_reducible repeat (first | refine ze ?_ _ | refine zf ?_ | refine zc ?_ _)); exact BK220.out) hb); have n7_ := za.mk (zh sB hb); clear HO_154; clear HO_155; clear HO_156; clear HO226; clear BK209; clear BK220; clear HB; have HO_154 := n0_; have HO_155 := n1_; have HO_156 := n2_; have HO226 := n3_; have HO229 := n4_; have BK209 := n5_; have BK220 := n6_; have HB := n7_; clear n0_ n1_ n2_ n3_ n4_ n5_ n6_ n7_; try clear hb))
   go_loopg [8] k1 (fun kq v8 w' => ∃ (v157 : Value) (x7_2 : List (S80)) (x8_2 : Int) (x154_2 : List Int) (x155_2 : List Int) (x156_2 : List (S80)) (x157_2 : List Int) (x210001_2 : Int) (x210002_2 : Int) (x210003_2 : Int) (x210004_2 : Int) (x210005_2 : Bool), v8 = .int .i64 x8_2 ∧ za (spec_l02Find.l1 kq x7_2 x8_2 x154_2 x155_2 x156_2 x157_2 l0_0 x210001_2 x210002_2 x210003_2 x210004_2 x210005_2 = some r) ∧ za (kq ≤ k1) ∧ za (Kd.R k80 80 w' w.heap.size (fun k_ => some k_ ≠ (v218 : Value).ownBlock) v228 x7_2) ∧ za (Kd.R (Kd.int .i16) 25 w' w.heap.size (fun _ => True) (.slice (some ⟨go29, 0, none⟩) x154_1.length co29) x154_2) ∧ za (Kd.R (Kd.int .i64) 2 w' w.heap.size (fun k_ => some k_ ≠ (v157 : Value).ownBlock) v215 x155_2) ∧ za (Kd.R k80 80 w' w.heap.size (fun k_ => some k_ ≠ (v228 : Value).ownBlock) v218 x156_2) ∧ za (Kd.R (Kd.int .i64) 2 w' w.heap.size (fun k_ => some k_ ≠ (v215 : Value).ownBlock) v157 x157_2) ∧ za (w'.heap[gb209]? = some (.cells #[(.slice A0_0 l0_0.length c0_0), .int .i16 x210001_2, .int .i16 x210002_2, .int .i16 x210003_2, .int .i16 x210004_2, .bool x210005_2] 29 (0, 0))) ∧ za (w'.heap[gb220]? = some (.cells #[.slice (some ⟨go29, 0, none⟩) x154_1.length co29, v215, v218, v157] 87 (0, 0))) ∧ za (Below w.heap.size w w'))
   case atStart => exact ⟨_, (t227), (0), (y223), (y214), (y217), (y224), (a0_1), (a0_2), (a0_3), (a0_4), (a0_5), (by first | rfl | (simp; done) | (simp [*]; done)), H', ⟨Nat.le_refl _⟩, ⟨uR' (Kd.R_mono HO229.out (fun _ hk => hk.2))⟩, ⟨uR HO_154⟩, ⟨uR' (Kd.R_mono HO_155.out (fun _ hk => hk.2))⟩, ⟨uR' (Kd.R_mono HO_156.out (fun _ hk => hk.2))⟩, ⟨uR HO226⟩, ⟨uK BK209⟩, ⟨uK BK220⟩, ⟨sB⟩⟩
   case round =>
    clear H'
    try clear c1
    try clear c2
    try clear p2
    try clear q2
    try clear hx2
    try clear hf2
    try clear c3
    try clear c3b0
    try clear c3b1
    try clear c4
    try clear c4b0
    try clear c4b1
    try clear c5
    try clear c5b0
    try clear c5b1
    try clear c6
    try clear c6b0
    try clear c6b1
    try clear p6
    try clear c9
    try clear c18
    try clear c18b0
    try clear c19
    try clear c19b0
    try clear c20
    try clear c20b0
    try clear p21
    try clear q21
    try clear hx21
    try clear hf21
    try clear c22
    try clear c27
    try clear c27b0
    try clear c28
    try clear c28b0
    try clear p29
    try clear q29
    try clear hx29
    try clear hf29
    try clear c30
    try clear c32
    try clear hcz23_0 hcz23_1 hcz23_2 hcz23_3
    try clear hcz33_0 hcz33_1 hcz33_2 hcz33_3 hcz33_1 hcz33_2 hcz33_3 hcz33_4 hcz33_5
    try clear hcz35_0 hcz35_1 hcz35_2 hcz35_3
    try clear hcz38_0 hcz38_1 hcz38_2 hcz38_3
    try clear hcz40_0 hcz40_1 hcz40_2 hcz40_3
    try clear hcz8_0 hcz8_1 hcz8_2 hcz8_3 hcz8_1 hcz8_2 hcz8_3 hcz8_4 hcz8_5
    try clear hfz23_0 hfz23_1 hfz23_2 hfz23_3
    try clear hfz33_0 hfz33_1 hfz33_2 hfz33_3 hfz33_1 hfz33_2 hfz33_3 hfz33_4 hfz33_5
    try clear hfz35_0 hfz35_1 hfz35_2 hfz35_3
    try clear hfz38_0 hfz38_1 hfz38_2 hfz38_3
    try clear hfz40_0 hfz40_1 hfz40_2 hfz40_3
    try clear hfz8_0 hfz8_1 hfz8_2 hfz8_3 hfz8_1 hfz8_2 hfz8_3 hfz8_4 hfz8_5
    try clear hx21_0
    try clear hx29_0
    try clear p2
    try clear p21
    try clear p29
    try clear q21
    try clear q29
    obtain ⟨u157, x7_2, x8_2, x154_2, x155_2, x156_2, x157_2, x210001_2, x210002_2, x210003_2, x210004_2, x210005_2, rfl, HA, HK2, HO_7, HO_154, HO_155, HO_156, HO_157, BK209, BK220, HB⟩ := hrel
    have hl154_2 := (Kd.R_reads' HO_154.out).1
    rw [hl154_2] at HO_154
    (try simp only [hl154_2])
    (try simp only [hl154_2] at BK209)
    (try simp only [hl154_2] at BK220)
    (try simp only [hl154_2] at HO_7)
    (try simp only [hl154_2] at HO_155)
    (try simp only [hl154_2] at HO_156)
    (try simp only [hl154_2] at HO_157)
    cases gk with
    | zero => exact absurd HA.out (by simp [spec_l02Find.l1])
    | succ k2 =>
     have H := HA.out
     clear HA
     simp only [spec_l02Find.l1] at H
     by_cases c42 : x8_2 < (x157_2.length : Int)
     ·rw [if_pos c42] at H
      have c42b0 : decide (x8_2 < (x157_2.length : Int)) = true := decide_eq_true c42
      clear c42
      by_cases c43 : 0 ≤ x8_2
      rotate_left
      ·rw [if_neg c43] at H
       exact absurd H (by simp)
      rw [if_pos c43] at H
      have c43b0 : decide (0 ≤ x8_2) = true := decide_eq_true c43
      clear c43
      replace H := Option.bind_eq_some_iff.mp H
      obtain ⟨⟨t231, t232, t233, t234⟩, A440, H⟩ := H
      replace H : (spec_l02Find.l2 k2 x7_2 x8_2 (rd x157_2 x8_2) 0 x154_2 x155_2 x156_2 x157_2 l0_0 x210001_2 x210002_2 x210003_2 x210004_2 x210005_2 t231 t232 t233 t234) = some r := H
      have A44 := za.mk A440
      clear A440
      have H' := za.mk H
      clear H
      have hnb45 := NB220_209.out
      have hnc45 := NB209_220.out
      have hcz46_0 := zic BK220.out
      have hcz46_1 := zuc BK220.out
      have hcz46_2 := zmc BK220.out
      have hcz46_3 := zkc BK220.out
      have hfz46_0 := zg BK220.out 0
      have hfz46_3 := zg BK220.out 3
      obtain ⟨Ao47, co47, eo47⟩ := Kd.R_slice HO_157.out
      subst eo47
      have p230 : 0 ≤ (x8_2 : Int) := of_decide_eq_true (by first | (with_reducible assumption) | assumption)
      have q230 : x8_2 < (x157_2.length : Int) := of_decide_eq_true (by first | (with_reducible assumption) | assumption)
      obtain ⟨ad230, e230, hx230_0⟩ := Kd.at_int (Kd.R_reads' HO_157.out).2.2 x8_2 p230 q230
      cases e230
      replace p230 := eq_true p230
      replace q230 := eq_true q230
      go_wp2_with (first | ((with_reducible refine zn (f := 74) rfl ?_); refine gz (some 81) Try.func74 #[.pointer (some ⟨gb209, 0, none⟩), .int .i64 (rd x157_2 x8_2)] rfl rfl ?_; (with_reducible refine (spec_l02At.calls k2 gb209 A0_0 c0_0 l0_0 x210001_2 x210002_2 x210003_2 x210004_2 x210005_2 (rd x157_2 x8_2) t231 t232 t233 t234 _ ?side1 ?side2 ?side3 A44.out).mono ?_); (case side1 => exact uK BK209); (case side2 => exact uC HR0_0 HB); (case side3 => exact HC0_0.out); rintro e w48 ⟨rfl, hb⟩; refine ⟨_, rfl, ?_⟩; have n0_ := dR HO_7 hb; have n1_ := dR HO_154 hb; have n2_ := dR HO_155 hb; have n3_ := dR HO_156 hb; have n4_ := dR HO_157 hb; have n5_ := dK BK209 hb; have n6_ := za.mk (zdb BK220.out (by intro h_; (with_reducible repeat (first | refine ze ?_ _ | refine zf ?_ | refine zc ?_ _)); exact h_) hb); have n7_ := za.mk (zh sB hb); clear HO_7; clear HO_154; clear HO_155; clear HO_156; clear HO_157; clear BK209; clear BK220; clear HB; have HO_7 := n0_; have HO_154 := n1_; have HO_155 := n2_; have HO_156 := n3_; have HO_157 := n4_; have BK209 := n5_; have BK220 := n6_; have HB := n7_; clear n0_ n1_ n2_ n3_ n4_ n5_ n6_ n7_; try clear hb) | ((with_reducible refine zu (N := 10) rfl ?_); refine bx (N := 10) #[.int .i16 0, .int .i16 0, .int .i16 0, .int .i16 0] 27 rfl ?_; intro gb235 hg w49 hbox hb; have n0_ := dR HO_7 hb; have n1_ := dR HO_154 hb; have n2_ := dR HO_155 hb; have n3_ := dR HO_156 hb; have n4_ := dR HO_157 hb; have n5_ := dK BK209 hb; have n6_ := za.mk (zdb BK220.out (by intro h_; (with_reducible repeat (first | refine ze ?_ _ | refine zf ?_ | refine zc ?_ _)); exact h_) hb); have n7_ := za.mk (zh sB hb); have n8_ := za.mk hbox; have n9_ := gB hg; have n10_ := n9_; have n11_ := nK hg BK209; have n12_ := za.mk n11_.out.symm; have n13_ := za.mk ((by rw [hg]; exact Nat.ne_of_lt (zme BK220.out (by intro h_; (with_reducible repeat (first | refine ze ?_ _ | refine zf ?_ | refine zc ?_ _)); exact h_)) : gb220 ≠ gb235)); have n14_ := za.mk n13_.out.symm; clear HO_7; clear HO_154; clear HO_155; clear HO_156; clear HO_157; clear BK209; clear BK220; clear HB; have HO_7 := n0_; have HO_154 := n1_; have HO_155 := n2_; have HO_156 := n3_; have HO_157 := n4_; have BK209 := n5_; have BK220 := n6_; have HB := n7_; have BK235 := n8_; have GW235 := n9_; have GE235 := n10_; have NB209_235 := n11_; have NB235_209 := n12_; have NB220_235 := n13_; have NB235_220 := n14_; clear n0_ n1_ n2_ n3_ n4_ n5_ n6_ n7_ n8_ n9_ n10_ n11_ n12_ n13_ n14_; clear hb hbox hg; have hnb50 := NB235_209.out; have hnc50 := NB209_235.out; have hnb51 := NB235_220.out; have hnc51 := NB220_235.out; obtain ⟨hcz52_0, hcz52_1, hcz52_2, hcz52_3⟩ := xc4 BK235; obtain ⟨hfz52_0, hfz52_1, hfz52_2, hfz52_3⟩ := xf4 BK235))
      go_loopg [11] k2 (fun kq v11 w' => ∃ (v157 : Value) (x7_3 : List (S80)) (x11_3 : Int) (x154_3 : List Int) (x155_3 : List Int) (x156_3 : List (S80)) (x157_3 : List Int) (x210001_3 : Int) (x210002_3 : Int) (x210003_3 : Int) (x210004_3 : Int) (x210005_3 : Bool), v11 = .int .i64 x11_3 ∧ za (spec_l02Find.l2 kq x7_3 x8_2 (rd x157_2 x8_2) x11_3 x154_3 x155_3 x156_3 x157_3 l0_0 x210001_3 x210002_3 x210003_3 x210004_3 x210005_3 t231 t232 t233 t234 = some r) ∧ za (kq ≤ k2) ∧ za (Kd.R k80 80 w' w.heap.size (fun k_ => some k_ ≠ (v218 : Value).ownBlock) v228 x7_3) ∧ za (Kd.R (Kd.int .i16) 25 w' w.heap.size (fun _ => True) (.slice (some ⟨go29, 0, none⟩) x154_2.length co29) x154_3) ∧ za (Kd.R (Kd.int .i64) 2 w' w.heap.size (fun k_ => some k_ ≠ (v157 : Value).ownBlock) v215 x155_3) ∧ za (Kd.R k80 80 w' w.heap.size (fun k_ => some k_ ≠ (v228 : Value).ownBlock) v218 x156_3) ∧ za (Kd.R (Kd.int .i64) 2 w' w.heap.size (fun k_ => some k_ ≠ (v215 : Value).ownBlock) v157 x157_3) ∧ za (w'.heap[gb209]? = some (.cells #[(.slice A0_0 l0_0.length c0_0), .int .i16 x210001_3, .int .i16 x210002_3, .int .i16 x210003_3, .int .i16 x210004_3, .bool x210005_3] 29 (0, 0))) ∧ za (w'.heap[gb220]? = some (.cells #[.slice (some ⟨go29, 0, none⟩) x154_2.length co29, v215, v218, v157] 87 (0, 0))) ∧ za (w'.heap[gb235]? = some (.cells #[.int .i16 t231, .int .i16 t232, .int .i16 t233, .int .i16 t234] 27 (0, 0))) ∧ za (Below w.heap.size w w'))
      case atStart => exact ⟨_, (x7_2), (0), (x154_2), (x155_2), (x156_2), (x157_2), (x210001_2), (x210002_2), (x210003_2), (x210004_2), (x210005_2), (by first | rfl | (simp; done) | (simp [*]; done)), H', ⟨Nat.le_refl _⟩, ⟨by (try simp only [hl154_2]); (with_reducible repeat (first | apply Kd.R_alloc | apply Kd.R_drewN | apply Kd.R_drew)); exact Kd.R_mono (Kd.R_far (p := ⟨gb235, 3, none⟩) (Kd.R_far (p := ⟨gb235, 2, none⟩) (Kd.R_far (p := ⟨gb235, 1, none⟩) (Kd.R_far (p := ⟨gb235, 0, none⟩) (Kd.R_types HO_7.out BK235.out (by decide)) (fun _ hk => hk.2) (.int .i16 t231)) (fun _ hk => hk.2) (.int .i16 t232)) (fun _ hk => hk.2) (.int .i16 t233)) (fun _ hk => hk.2) (.int .i16 t234)) (fun _ hk => hk.1)⟩, ⟨by (try simp only [hl154_2]); (with_reducible repeat (first | apply Kd.R_alloc | apply Kd.R_drewN | apply Kd.R_drew)); exact Kd.R_mono (Kd.R_far (p := ⟨gb235, 3, none⟩) (Kd.R_far (p := ⟨gb235, 2, none⟩) (Kd.R_far (p := ⟨gb235, 1, none⟩) (Kd.R_far (p := ⟨gb235, 0, none⟩) (Kd.R_types HO_154.out BK235.out (by decide)) (fun _ hk => hk.2) (.int .i16 t231)) (fun _ hk => hk.2) (.int .i16 t232)) (fun _ hk => hk.2) (.int .i16 t233)) (fun _ hk => hk.2) (.int .i16 t234)) (fun _ hk => trivial)⟩, ⟨by (try simp only [hl154_2]); (with_reducible repeat (first | apply Kd.R_alloc | apply Kd.R_drewN | apply Kd.R_drew)); exact Kd.R_mono (Kd.R_far (p := ⟨gb235, 3, none⟩) (Kd.R_far (p := ⟨gb235, 2, none⟩) (Kd.R_far (p := ⟨gb235, 1, none⟩) (Kd.R_far (p := ⟨gb235, 0, none⟩) (Kd.R_types HO_155.out BK235.out (by decide)) (fun _ hk => hk.2) (.int .i16 t231)) (fun _ hk => hk.2) (.int .i16 t232)) (fun _ hk => hk.2) (.int .i16 t233)) (fun _ hk => hk.2) (.int .i16 t234)) (fun _ hk => hk.1)⟩, ⟨by (try simp only [hl154_2]); (with_reducible repeat (first | apply Kd.R_alloc | apply Kd.R_drewN | apply Kd.R_drew)); exact Kd.R_mono (Kd.R_far (p := ⟨gb235, 3, none⟩) (Kd.R_far (p := ⟨gb235, 2, none⟩) (Kd.R_far (p := ⟨gb235, 1, none⟩) (Kd.R_far (p := ⟨gb235, 0, none⟩) (Kd.R_types HO_156.out BK235.out (by decide)) (fun _ hk => hk.2) (.int .i16 t231)) (fun _ hk => hk.2) (.int .i16 t232)) (fun _ hk => hk.2) (.int .i16 t233)) (fun _ hk => hk.2) (.int .i16 t234)) (fun _ hk => hk.1)⟩, ⟨by (try simp only [hl154_2]); (with_reducible repeat (first | apply Kd.R_alloc | apply Kd.R_drewN | apply Kd.R_drew)); exact Kd.R_mono (Kd.R_far (p := ⟨gb235, 3, none⟩) (Kd.R_far (p := ⟨gb235, 2, none⟩) (Kd.R_far (p := ⟨gb235, 1, none⟩) (Kd.R_far (p := ⟨gb235, 0, none⟩) (Kd.R_types HO_157.out BK235.out (by decide)) (fun _ hk => hk.2) (.int .i16 t231)) (fun _ hk => hk.2) (.int .i16 t232)) (fun _ hk => hk.2) (.int .i16 t233)) (fun _ hk => hk.2) (.int .i16 t234)) (fun _ hk => hk.1)⟩, ⟨by (try simp only [hl154_2]); (with_reducible repeat (first | refine ze ?_ _ | refine zf ?_ | refine zc ?_ _)); refine zm ?_ NB209_235.out _; (with_reducible repeat (first | refine ze ?_ _ | refine zf ?_ | refine zc ?_ _)); refine zm ?_ NB209_235.out _; (with_reducible repeat (first | refine ze ?_ _ | refine zf ?_ | refine zc ?_ _)); refine zm ?_ NB209_235.out _; (with_reducible repeat (first | refine ze ?_ _ | refine zf ?_ | refine zc ?_ _)); refine zm ?_ NB209_235.out _; (with_reducible repeat (first | refine ze ?_ _ | refine zf ?_ | refine zc ?_ _)); exact BK209.out⟩, ⟨by (try simp only [hl154_2]); (with_reducible repeat (first | refine ze ?_ _ | refine zf ?_ | refine zc ?_ _)); refine zka ?_ NB220_235.out _; (with_reducible repeat (first | refine ze ?_ _ | refine zf ?_ | refine zc ?_ _)); refine zka ?_ NB220_235.out _; (with_reducible repeat (first | refine ze ?_ _ | refine zf ?_ | refine zc ?_ _)); refine zka ?_ NB220_235.out _; (with_reducible repeat (first | refine ze ?_ _ | refine zf ?_ | refine zc ?_ _)); refine zka ?_ NB220_235.out _; (with_reducible repeat (first | refine ze ?_ _ | refine zf ?_ | refine zc ?_ _)); exact BK220.out⟩, ⟨by (try simp only [hl154_2]); (with_reducible repeat (first | refine ze ?_ _ | refine zf ?_ | refine zc ?_ _)); refine zx (cs := #[.int .i16 t231, .int .i16 t232, .int .i16 t233, .int .i16 0]) ?_ 3 _ rfl; (with_reducible repeat (first | refine ze ?_ _ | refine zf ?_ | refine zc ?_ _)); refine zx (cs := #[.int .i16 t231, .int .i16 t232, .int .i16 0, .int .i16 0]) ?_ 2 _ rfl; (with_reducible repeat (first | refine ze ?_ _ | refine zf ?_ | refine zc ?_ _)); refine zx (cs := #[.int .i16 t231, .int .i16 0, .int .i16 0, .int .i16 0]) ?_ 1 _ rfl; (with_reducible repeat (first | refine ze ?_ _ | refine zf ?_ | refine zc ?_ _)); refine zx (cs := #[.int .i16 0, .int .i16 0, .int .i16 0, .int .i16 0]) ?_ 0 _ rfl; (with_reducible repeat (first | refine ze ?_ _ | refine zf ?_ | refine zc ?_ _)); exact BK235.out⟩, ⟨sB⟩⟩
      case round =>
       clear H'
       try clear c1
       try clear c2
       try clear p2
       try clear q2
       try clear hx2
       try clear hf2
       try clear c3
       try clear c3b0
       try clear c3b1
       try clear c4
       try clear c4b0
       try clear c4b1
       try clear c5
       try clear c5b0
       try clear c5b1
       try clear c6
       try clear c6b0
       try clear c6b1
       try clear p6
       try clear c7
       try clear c9
       try clear c18
       try clear c18b0
       try clear c19
       try clear c19b0
       try clear c20
       try clear c20b0
       try clear p21
       try clear q21
       try clear hx21
       try clear hf21
       try clear c22
       try clear p23
       try clear q23
       try clear hx23
       try clear c27
       try clear c27b0
       try clear c28
       try clear c28b0
       try clear p29
       try clear q29
       try clear hx29
       try clear hf29
       try clear c30
       try clear c32
       try clear c42
       try clear c42b0
       try clear c43
       try clear c43b0
       try clear c45
       try clear c50
       try clear c51
       try clear hcz23_0 hcz23_1 hcz23_2 hcz23_3
       try clear hcz33_0 hcz33_1 hcz33_2 hcz33_3 hcz33_1 hcz33_2 hcz33_3 hcz33_4 hcz33_5
       try clear hcz35_0 hcz35_1 hcz35_2 hcz35_3
       try clear hcz38_0 hcz38_1 hcz38_2 hcz38_3
       try clear hcz40_0 hcz40_1 hcz40_2 hcz40_3
       try clear hcz46_0 hcz46_1 hcz46_2 hcz46_3
       try clear hcz52_0 hcz52_1 hcz52_2 hcz52_3 hcz52_1 hcz52_2 hcz52_3
       try clear hcz8_0 hcz8_1 hcz8_2 hcz8_3 hcz8_1 hcz8_2 hcz8_3 hcz8_4 hcz8_5
       try clear hfz23_0 hfz23_1 hfz23_2 hfz23_3
       try clear hfz33_0 hfz33_1 hfz33_2 hfz33_3 hfz33_1 hfz33_2 hfz33_3 hfz33_4 hfz33_5
       try clear hfz35_0 hfz35_1 hfz35_2 hfz35_3
       try clear hfz38_0 hfz38_1 hfz38_2 hfz38_3
       try clear hfz40_0 hfz40_1 hfz40_2 hfz40_3
       try clear hfz46_0 hfz46_1 hfz46_2 hfz46_3
       try clear hfz52_0 hfz52_1 hfz52_2 hfz52_3 hfz52_1 hfz52_2 hfz52_3
       try clear hfz8_0 hfz8_1 hfz8_2 hfz8_3 hfz8_1 hfz8_2 hfz8_3 hfz8_4 hfz8_5
       try clear hx21_0
       try clear hx230_0
       try clear hx29_0
       try clear p2
       try clear p21
       try clear p230
       try clear p29
       try clear p6
       try clear q2
       try clear q21
       try clear q230
       try clear q29
       obtain ⟨u157, x7_3, x11_3, x154_3, x155_3, x156_3, x157_3, x210001_3, x210002_3, x210003_3, x210004_3, x210005_3, rfl, HA, HK3, HO_7, HO_154, HO_155, HO_156, HO_157, BK209, BK220, BK235, HB⟩ := hrel
       have hl154_3 := (Kd.R_reads' HO_154.out).1
       rw [hl154_3] at HO_154
       (try simp only [hl154_3])
       (try simp only [hl154_3] at BK209)
       (try simp only [hl154_3] at BK220)
       (try simp only [hl154_3] at BK235)
       (try simp only [hl154_3] at HO_7)
       (try simp only [hl154_3] at HO_155)
       (try simp only [hl154_3] at HO_156)
       (try simp only [hl154_3] at HO_157)
       cases gk with
       | zero => exact absurd HA.out (by simp [spec_l02Find.l2])
       | succ k3 =>
        have H := HA.out
        clear HA
        simp only [spec_l02Find.l2] at H
        by_cases c53 : x11_3 < (x7_3.length : Int)
        ·rw [if_pos c53] at H
         have c53b0 : decide (x11_3 < (x7_3.length : Int)) = true := decide_eq_true c53
         clear c53
         by_cases c54 : 0 ≤ x11_3
         rotate_left
         ·rw [if_neg c54] at H
          exact absurd H (by simp)
         rw [if_pos c54] at H
         have c54b0 : decide (0 ≤ x11_3) = true := decide_eq_true c54
         clear c54
         replace H := Option.bind_eq_some_iff.mp H
         obtain ⟨⟨t237, t238, t239, t240, t241⟩, A550, H⟩ := H
         replace H : (if t241 = 0 then ((spec_l02Index.f k3 l0_0 x210001_3 x210002_3 x210003_3 x210004_3 x210005_3 t237 t238 t239 t240).bind fun t243 => (if 0 ≤ t243 then (if t243 < (x154_3.length : Int) then (if (rd x154_3 t243) ≥ 0 then (spec_l02Find.l2 k3 x7_3 x8_2 (rd x157_2 x8_2) (wrap64 (x11_3 + 1)) x154_3 x155_3 x156_3 x157_3 l0_0 x210001_3 x210002_3 x210003_3 x210004_3 x210005_3 t231 t232 t233 t234) else (if 0 ≤ (rd x157_2 x8_2) then (if (rd x157_2 x8_2) < (x154_3.length : Int) then (if t243 < (x155_3.length : Int) then (if t243 < (x156_3.length : Int) then (if x157_3.length < 17592186044416 then (spec_l02Find.l2 k3 x7_3 x8_2 (rd x157_2 x8_2) (wrap64 (x11_3 + 1)) (x154_3.set (t243 : Int).toNat (IntKind.i16.wrap ((rd x154_3 (rd x157_2 x8_2)) + 1))) (x155_3.set (t243 : Int).toNat (rd x157_2 x8_2)) (x156_3.set (t243 : Int).toNat (⟨(zi x7_3 x11_3).f0, (zi x7_3 x11_3).f1, (zi x7_3 x11_3).f2⟩ : S80)) (x157_3 ++ [t243]) l0_0 x210001_3 x210002_3 x210003_3 x210004_3 x210005_3 t231 t232 t233 t234) else (none)) else (none)) else (none)) else (none)) else (none))) else (none)) else (none))) else (spec_l02Find.l2 k3 x7_3 x8_2 (rd x157_2 x8_2) (wrap64 (x11_3 + 1)) x154_3 x155_3 x156_3 x157_3 l0_0 x210001_3 x210002_3 x210003_3 x210004_3 x210005_3 t231 t232 t233 t234)) = some r := H
         have A55 := za.mk A550
         clear A550
         have HS_ := za.mk H
         clear H
         obtain ⟨Ao61, co61, eo61⟩ := Kd.R_slice HO_7.out
         subst eo61
         try go_wp2
         have n0_ := za.mk (Kd.R_drew HO_7.out)
         have n1_ := za.mk (Kd.R_drew HO_154.out)
         have n2_ := za.mk (Kd.R_drew HO_155.out)
         have n3_ := za.mk (Kd.R_drew HO_156.out)
         have n4_ := za.mk (Kd.R_drew HO_157.out)
         have n5_ := za.mk (zf BK209.out)
         have n6_ := za.mk (zf BK220.out)
         have n7_ := za.mk (zf BK235.out)
         have n8_ := za.mk (zv HB.out)
         clear HO_7
         clear HO_154
         clear HO_155
         clear HO_156
         clear HO_157
         clear BK209
         clear BK220
         clear BK235
         clear HB
         have HO_7 := n0_
         have HO_154 := n1_
         have HO_155 := n2_
         have HO_156 := n3_
         have HO_157 := n4_
         have BK209 := n5_
         have BK220 := n6_
         have BK235 := n7_
         have HB := n8_
         clear n0_ n1_ n2_ n3_ n4_ n5_ n6_ n7_ n8_
         have p236 : 0 ≤ (x11_3 : Int) := of_decide_eq_true (by first | (with_reducible assumption) | assumption)
         have q236 : x11_3 < (x7_3.length : Int) := of_decide_eq_true (by first | (with_reducible assumption) | assumption)
         obtain ⟨ad236, e236, hx236_0, hx236_1, hx236_2⟩ := at_T80 (Kd.R_reads' HO_7.out).2.2 x11_3 p236 q236
         cases e236
         replace p236 := eq_true p236
         replace q236 := eq_true q236
         refine zlc (n := 13) (S := fun w' => w'.cell? ⟨gb235, 0, none⟩ = some (.int .i16 t231) ∧ w'.cell? ⟨gb235, 1, none⟩ = some (.int .i16 t232) ∧ w'.cell? ⟨gb235, 2, none⟩ = some (.int .i16 t233) ∧ w'.cell? ⟨gb235, 3, none⟩ = some (.int .i16 t234) ∧ w'.cell? (ad236.add ((x11_3).toNat * 3)) = some (.int .i8 ((zi x7_3 x11_3).f0)) ∧ w'.cell? ⟨(ad236.add ((x11_3).toNat * 3)).block, (ad236.add ((x11_3).toNat * 3)).off + 1, none⟩ = some (.int .i8 ((zi x7_3 x11_3).f1)) ∧ w'.cell? ⟨(ad236.add ((x11_3).toNat * 3)).block, (ad236.add ((x11_3).toNat * 3)).off + 2, none⟩ = some (.int .i8 ((zi x7_3 x11_3).f2))) (ds := []) #[false, false, false, false, false, false, false, false, false, false, false, false, false] (by kernel_rfl) rfl rfl ⟨(zb BK235.out 0).trans rfl, (zb BK235.out 1).trans rfl, (zb BK235.out 2).trans rfl, (zb BK235.out 3).trans rfl, hx236_0, hx236_1, hx236_2⟩ (fun hHeld => ?_); refine zpb spec_l02Find.tab19 spec_l02Find.bits19 (fun HT_ HW_ => ?_)
         generalize wr.drew = w62 at HO_7 HO_154 HO_155 HO_156 HO_157 BK209 BK220 BK235 HB hx236_0 hx236_1 hx236_2 hHeld ⊢
         refine zfa (i := 0) (N := some 89) (v := ?_) (a' := ?_) #[true, false, false, false, false, false, false, false, false, false, false, false, false] rfl rfl (zda HT_.out (by kernel_rfl)) (fun _ _ _ h => h) (Or.inl ⟨by rfl, ?_⟩) ?_ ?_
         rotate_left
         ·intro w'
          go_simp
          with_reducible rfl
         rotate_left
         ·simp only [Act.put, List.setIfInBounds_toArray, List.set_cons_zero, List.set_cons_succ, zz, zy]
          rfl
         refine zfa (i := 2) (N := some 91) (v := ?_) (a' := ?_) #[true, false, true, false, false, false, false, false, false, false, false, false, false] rfl rfl (zda HT_.out (by kernel_rfl)) (fun _ _ _ h => h) (Or.inl ⟨by rfl, ?_⟩) ?_ ?_
         rotate_left
         ·intro w'
          go_simp
          with_reducible rfl
         rotate_left
         ·simp only [Act.put, List.setIfInBounds_toArray, List.set_cons_zero, List.set_cons_succ, zz, zy]
          rfl
         refine zfa (i := 3) (N := some 92) (v := ?_) (a' := ?_) #[true, false, true, true, false, false, false, false, false, false, false, false, false] rfl rfl (zda HT_.out (by kernel_rfl)) (fun _ _ _ h => h) (Or.inl ⟨by rfl, ?_⟩) ?_ ?_
         rotate_left
         ·intro w'
          go_simp
          with_reducible rfl
         rotate_left
         ·simp only [Act.put, List.setIfInBounds_toArray, List.set_cons_zero, List.set_cons_succ, zz, zy]
          rfl
         refine zfa (i := 4) (N := some 93) (v := ?_) (a' := ?_) #[true, false, true, true, true, false, false, false, false, false, false, false, false] rfl rfl (zda HT_.out (by kernel_rfl)) (fun _ _ _ h => h) (Or.inl ⟨by rfl, ?_⟩) ?_ ?_
         rotate_left
         ·intro w'
          go_simp
          with_reducible rfl
         rotate_left
         ·simp only [Act.put, List.setIfInBounds_toArray, List.set_cons_zero, List.set_cons_succ, zz, zy]
          rfl
         refine take_ (i := 1) (N := some 90) (v := ?_) (a' := ?_) #[true, true, true, true, true, false, false, false, false, false, false, false, false] rfl rfl (zwa HT_.out HW_.out (by kernel_rfl)) (fun _ _ _ h => h) (Or.inl ⟨by rfl, ?_⟩) hHeld ?_ ?_
         rotate_left
         ·rintro w' ⟨s0, s1, s2, s3, s4, s5, s6⟩
          go_simp
          with_reducible rfl
         rotate_left
         ·simp only [Act.put, List.setIfInBounds_toArray, List.set_cons_zero, List.set_cons_succ, zz, zy]
          rfl
         refine take_ (i := 5) (N := some 94) (v := ?_) (a' := ?_) #[true, true, true, true, true, true, false, false, false, false, false, false, false] rfl rfl (zwa HT_.out HW_.out (by kernel_rfl)) (fun _ _ _ h => h) (Or.inl ⟨by rfl, ?_⟩) hHeld ?_ ?_
         rotate_left
         ·rintro w' ⟨s0, s1, s2, s3, s4, s5, s6⟩
          go_simp
          with_reducible rfl
         rotate_left
         ·simp only [Act.put, List.setIfInBounds_toArray, List.set_cons_zero, List.set_cons_succ, zz, zy]
          rfl
         refine zse (σ := Nat) 2 #[true, true, true, true, true, true, true, true, true, true, true, false, false] (fun s_ => [(95, .tuple #[.agg #[.int .i16 t237, .int .i16 t238, .int .i16 t239, .int .i16 t240], .int .i64 t241]), (12, .pointer (some ⟨s_, 0, none⟩)), (88, .tuple #[.agg #[.int .i16 t237, .int .i16 t238, .int .i16 t239, .int .i16 t240], .int .i64 t241]), (96, .agg #[.int .i16 t237, .int .i16 t238, .int .i16 t239, .int .i16 t240]), (97, .int .i64 t241)]) (fun s_ w' => (w'.cell? ⟨gb235, 0, none⟩ = some (.int .i16 t231) ∧ w'.cell? ⟨gb235, 1, none⟩ = some (.int .i16 t232) ∧ w'.cell? ⟨gb235, 2, none⟩ = some (.int .i16 t233) ∧ w'.cell? ⟨gb235, 3, none⟩ = some (.int .i16 t234) ∧ w'.cell? (ad236.add ((x11_3).toNat * 3)) = some (.int .i8 ((zi x7_3 x11_3).f0)) ∧ w'.cell? ⟨(ad236.add ((x11_3).toNat * 3)).block, (ad236.add ((x11_3).toNat * 3)).off + 1, none⟩ = some (.int .i8 ((zi x7_3 x11_3).f1)) ∧ w'.cell? ⟨(ad236.add ((x11_3).toNat * 3)).block, (ad236.add ((x11_3).toNat * 3)).off + 2, none⟩ = some (.int .i8 ((zi x7_3 x11_3).f2))) ∧ (Kd.R (Kd.int .i16) 25 w' w.heap.size (fun _ => True) (.slice (some ⟨go29, 0, none⟩) x154_3.length co29) x154_3) ∧ (Kd.R (Kd.int .i64) 2 w' w.heap.size (fun k_ => some k_ ≠ (u157 : Value).ownBlock) v215 x155_3) ∧ (Kd.R k80 80 w' w.heap.size (fun k_ => some k_ ≠ (.slice (some ad236) x7_3.length co61 : Value).ownBlock) v218 x156_3) ∧ (Kd.R (Kd.int .i64) 2 w' w.heap.size (fun k_ => some k_ ≠ (v215 : Value).ownBlock) u157 x157_3) ∧ (Kd.R k80 80 w' w.heap.size (fun k_ => some k_ ≠ (v218 : Value).ownBlock) (.slice (some ad236) x7_3.length co61) x7_3) ∧ (w'.heap[gb209]? = some (.cells #[.slice A0_0 l0_0.length c0_0, .int .i16 x210001_3, .int .i16 x210002_3, .int .i16 x210003_3, .int .i16 x210004_3, .bool x210005_3] 29 (0, 0))) ∧ (w'.heap[gb220]? = some (.cells #[.slice (some ⟨go29, 0, none⟩) x154_3.length co29, v215, v218, u157] 87 (0, 0))) ∧ (w'.heap[gb235]? = some (.cells #[.int .i16 t231, .int .i16 t232, .int .i16 t233, .int .i16 t234] 27 (0, 0))) ∧ (w'.heap[s_]? = some (.cells #[.int .i16 0, .int .i16 0, .int .i16 0, .int .i16 0] 27 (0, 0))) ∧ (w.heap.size ≤ s_) ∧ (w.heap.size ≤ s_) ∧ (gb209 ≠ s_) ∧ (s_ ≠ gb209) ∧ (gb220 ≠ s_) ∧ (s_ ≠ gb220) ∧ (gb235 ≠ s_) ∧ (s_ ≠ gb235) ∧ (Below w.heap.size w w')) ?_ ?_
         rotate_left
         ·intro hCont
          refine two_ (i := 6) (j := 10) (Ni := some 95) (Nj := some 12) #[true, true, true, true, true, true, true, false, false, false, false, false, false] #[true, true, true, true, true, true, false, false, false, false, true, false, false] rfl rfl rfl rfl (two_of HT_.out (by kernel_rfl)) (by decide) (by decide) (fun K hK => ?_) (fun K hK => ?_)
          ·skip
           refine zyd Try.func76 (by kernel_rfl) rfl #[.pointer (some ⟨gb209, 0, none⟩), .agg #[.int .i16 t231, .int .i16 t232, .int .i16 t233, .int .i16 t234], .agg #[.int .i8 ((zi x7_3 x11_3).f0), .int .i8 ((zi x7_3 x11_3).f1), .int .i8 ((zi x7_3 x11_3).f2)]] (by rfl) rfl rfl (by (try simp only [List.map_toArray, List.map_cons, List.map_nil]); first | done | rfl | (simp only [List.length_drop, List.length_take]; rfl)) ?_
           with_reducible refine (spec_l02Move.calls gb209 A0_0 c0_0 l0_0 x210001_3 x210002_3 x210003_3 x210004_3 x210005_3 t231 t232 t233 t234 ((zi x7_3 x11_3).f0) ((zi x7_3 x11_3).f1) ((zi x7_3 x11_3).f2) t237 t238 t239 t240 t241 _ ?side1 ?side2 ?side3 A55.out).mono ?_
           (case side1 => exact uK BK209)
           (case side2 => exact uC HR0_0 HB)
           (case side3 => exact HC0_0.out)
           rintro e w63 ⟨rfl, hb⟩
           have HS4_ := (hb.cell (World.block_lt_of_cell? _ _ (hHeld.2.2.2.2.1))).trans (hHeld.2.2.2.2.1)
           have HS5_ := (hb.cell (World.block_lt_of_cell? _ _ (hHeld.2.2.2.2.2.1))).trans (hHeld.2.2.2.2.2.1)
           have HS6_ := (hb.cell (World.block_lt_of_cell? _ _ (hHeld.2.2.2.2.2.2))).trans (hHeld.2.2.2.2.2.2)
           refine ⟨_, rfl, ?_⟩
           have n0_ := dR HO_7 hb
           have n1_ := dR HO_154 hb
           have n2_ := dR HO_155 hb
           have n3_ := dR HO_156 hb
           have n4_ := dR HO_157 hb
           have n5_ := dK BK209 hb
           have n6_ := za.mk (zdb BK220.out (by intro h_; (with_reducible repeat (first | refine ze ?_ _ | refine zf ?_ | refine zc ?_ _)); exact h_) hb)
           have n7_ := dK BK235 hb
           have n8_ := za.mk (zh sB hb)
           clear HO_7
           clear HO_154
           clear HO_155
           clear HO_156
           clear HO_157
           clear BK209
           clear BK220
           clear BK235
           clear HB
           have HO_7 := n0_
           have HO_154 := n1_
           have HO_155 := n2_
           have HO_156 := n3_
           have HO_157 := n4_
           have BK209 := n5_
           have BK220 := n6_
           have BK235 := n7_
           have HB := n8_
           clear n0_ n1_ n2_ n3_ n4_ n5_ n6_ n7_ n8_
           (try clear hb)
           (try clear hb2)
           (try clear hk)
           (try clear hi)
           refine hK.out _ _ ⟨(zb BK235.out 0).trans rfl, (zb BK235.out 1).trans rfl, (zb BK235.out 2).trans rfl, (zb BK235.out 3).trans rfl, HS4_, HS5_, HS6_⟩ (fun hHeld => ?_)
           clear hK K
           refine zma (a' := ?_) ?_ ?_
           rotate_left
           ·show Act.put _ (some 95) _ = _
            simp only [Act.put, List.setIfInBounds_toArray, List.set_cons_zero, List.set_cons_succ, zz, zy]
            rfl
           refine zfa (i := 7) (N := some 88) (v := ?_) (a' := ?_) #[true, true, true, true, true, true, true, true, false, false, false, false, false] rfl rfl (zda HT_.out (by kernel_rfl)) (fun _ _ _ h => h) (Or.inl ⟨by rfl, ?_⟩) ?_ ?_
           rotate_left
           ·intro w'
            go_simp
            with_reducible rfl
           rotate_left
           ·simp only [Act.put, List.setIfInBounds_toArray, List.set_cons_zero, List.set_cons_succ, zz, zy]
            rfl
           refine zfa (i := 8) (N := some 96) (v := ?_) (a' := ?_) #[true, true, true, true, true, true, true, true, true, false, false, false, false] rfl rfl (zda HT_.out (by kernel_rfl)) (fun _ _ _ h => h) (Or.inl ⟨by rfl, ?_⟩) ?_ ?_
           rotate_left
           ·intro w'
            go_simp
            with_reducible rfl
           rotate_left
           ·simp only [Act.put, List.setIfInBounds_toArray, List.set_cons_zero, List.set_cons_succ, zz, zy]
            rfl
           refine zfa (i := 9) (N := some 97) (v := ?_) (a' := ?_) #[true, true, true, true, true, true, true, true, true, true, false, false, false] rfl rfl (zda HT_.out (by kernel_rfl)) (fun _ _ _ h => h) (Or.inl ⟨by rfl, ?_⟩) ?_ ?_
           rotate_left
           ·intro w'
            go_simp
            with_reducible rfl
           rotate_left
           ·simp only [Act.put, List.setIfInBounds_toArray, List.set_cons_zero, List.set_cons_succ, zz, zy]
            rfl
           refine one_ (i := 10) (N := some 12) #[true, true, true, true, true, true, true, true, true, true, true, false, false] rfl rfl (ztb HT_.out (by kernel_rfl)) (by decide) (fun K hK => ?_)
           refine zed ?hg (N := 12) ?hd (cs := #[.int .i16 0, .int .i16 0, .int .i16 0, .int .i16 0]) (t := 27) ?hr ?_; (case hd => rfl); (case hg => rfl); (case hr => first | (go_simp; done) | (go_simp; rfl))
           intro gb242 hg w64 hbox hb
           have HS4_ := (hb.cell (World.block_lt_of_cell? _ _ (hHeld.2.2.2.2.1))).trans (hHeld.2.2.2.2.1)
           have HS5_ := (hb.cell (World.block_lt_of_cell? _ _ (hHeld.2.2.2.2.2.1))).trans (hHeld.2.2.2.2.2.1)
           have HS6_ := (hb.cell (World.block_lt_of_cell? _ _ (hHeld.2.2.2.2.2.2))).trans (hHeld.2.2.2.2.2.2)
           have n0_ := dR HO_7 hb
           have n1_ := dR HO_154 hb
           have n2_ := dR HO_155 hb
           have n3_ := dR HO_156 hb
           have n4_ := dR HO_157 hb
           have n5_ := dK BK209 hb
           have n6_ := za.mk (zdb BK220.out (by intro h_; (with_reducible repeat (first | refine ze ?_ _ | refine zf ?_ | refine zc ?_ _)); exact h_) hb)
           have n7_ := dK BK235 hb
           have n8_ := za.mk (zh sB hb)
           have n9_ := za.mk hbox
           have n10_ := gB hg
           have n11_ := gB hg
           have n12_ := nK hg BK209
           have n13_ := za.mk (nK hg BK209).out.symm
           have n14_ := za.mk ((by rw [hg]; exact Nat.ne_of_lt (zme BK220.out (by intro h_; (with_reducible repeat (first | refine ze ?_ _ | refine zf ?_ | refine zc ?_ _)); exact h_)) : gb220 ≠ gb242))
           have n15_ := za.mk ((by rw [hg]; exact Nat.ne_of_gt (zme BK220.out (by intro h_; (with_reducible repeat (first | refine ze ?_ _ | refine zf ?_ | refine zc ?_ _)); exact h_)) : gb242 ≠ gb220))
           have n16_ := nK hg BK235
           have n17_ := za.mk (nK hg BK235).out.symm
           clear HO_7
           clear HO_154
           clear HO_155
           clear HO_156
           clear HO_157
           clear BK209
           clear BK220
           clear BK235
           clear HB
           have HO_7 := n0_
           have HO_154 := n1_
           have HO_155 := n2_
           have HO_156 := n3_
           have HO_157 := n4_
           have BK209 := n5_
           have BK220 := n6_
           have BK235 := n7_
           have HB := n8_
           have BK242 := n9_
           have GW242 := n10_
           have GE242 := n11_
           have NB209_242 := n12_
           have NB242_209 := n13_
           have NB220_242 := n14_
           have NB242_220 := n15_
           have NB235_242 := n16_
           have NB242_235 := n17_
           clear n0_ n1_ n2_ n3_ n4_ n5_ n6_ n7_ n8_ n9_ n10_ n11_ n12_ n13_ n14_ n15_ n16_ n17_
           clear hb hbox hg
           refine hK.out _ _ ⟨(zb BK235.out 0).trans rfl, (zb BK235.out 1).trans rfl, (zb BK235.out 2).trans rfl, (zb BK235.out 3).trans rfl, HS4_, HS5_, HS6_⟩ (fun hHeld => ?_)
           clear hK K
           refine zma (a' := ?_) ?_ ?_
           rotate_left
           ·show Act.put _ (some 12) _ = _
            simp only [Act.put, List.setIfInBounds_toArray, List.set_cons_zero, List.set_cons_succ, zz, zy]
            rfl
           exact zma (by simp only [zra, Act.put, List.setIfInBounds_toArray, List.set_cons_zero, List.set_cons_succ]) (hCont (gb242) _ ⟨hHeld, (uR HO_154), (uR HO_155), (uR HO_156), (uR HO_157), (uR HO_7), (uK BK209), (uK BK220), (uK BK235), (uK BK242), GW242.out, GE242.out, NB209_242.out, NB242_209.out, NB220_242.out, NB242_220.out, NB235_242.out, NB242_235.out, sB⟩)
          skip
          refine zed ?hg (N := 12) ?hd (cs := #[.int .i16 0, .int .i16 0, .int .i16 0, .int .i16 0]) (t := 27) ?hr ?_; (case hd => rfl); (case hg => rfl); (case hr => first | (go_simp; done) | (go_simp; rfl))
          intro gb242 hg w63 hbox hb
          have HS4_ := (hb.cell (World.block_lt_of_cell? _ _ (hHeld.2.2.2.2.1))).trans (hHeld.2.2.2.2.1)
          have HS5_ := (hb.cell (World.block_lt_of_cell? _ _ (hHeld.2.2.2.2.2.1))).trans (hHeld.2.2.2.2.2.1)
          have HS6_ := (hb.cell (World.block_lt_of_cell? _ _ (hHeld.2.2.2.2.2.2))).trans (hHeld.2.2.2.2.2.2)
          have n0_ := dR HO_7 hb
          have n1_ := dR HO_154 hb
          have n2_ := dR HO_155 hb
          have n3_ := dR HO_156 hb
          have n4_ := dR HO_157 hb
          have n5_ := dK BK209 hb
          have n6_ := za.mk (zdb BK220.out (by intro h_; (with_reducible repeat (first | refine ze ?_ _ | refine zf ?_ | refine zc ?_ _)); exact h_) hb)
          have n7_ := dK BK235 hb
          have n8_ := za.mk (zh sB hb)
          have n9_ := za.mk hbox
          have n10_ := gB hg
          have n11_ := gB hg
          have n12_ := nK hg BK209
          have n13_ := za.mk (nK hg BK209).out.symm
          have n14_ := za.mk ((by rw [hg]; exact Nat.ne_of_lt (zme BK220.out (by intro h_; (with_reducible repeat (first | refine ze ?_ _ | refine zf ?_ | refine zc ?_ _)); exact h_)) : gb220 ≠ gb242))
          have n15_ := za.mk ((by rw [hg]; exact Nat.ne_of_gt (zme BK220.out (by intro h_; (with_reducible repeat (first | refine ze ?_ _ | refine zf ?_ | refine zc ?_ _)); exact h_)) : gb242 ≠ gb220))
          have n16_ := nK hg BK235
          have n17_ := za.mk (nK hg BK235).out.symm
          clear HO_7
          clear HO_154
          clear HO_155
          clear HO_156
          clear HO_157
          clear BK209
          clear BK220
          clear BK235
          clear HB
          have HO_7 := n0_
          have HO_154 := n1_
          have HO_155 := n2_
          have HO_156 := n3_
          have HO_157 := n4_
          have BK209 := n5_
          have BK220 := n6_
          have BK235 := n7_
          have HB := n8_
          have BK242 := n9_
          have GW242 := n10_
          have GE242 := n11_
          have NB209_242 := n12_
          have NB242_209 := n13_
          have NB220_242 := n14_
          have NB242_220 := n15_
          have NB235_242 := n16_
          have NB242_235 := n17_
          clear n0_ n1_ n2_ n3_ n4_ n5_ n6_ n7_ n8_ n9_ n10_ n11_ n12_ n13_ n14_ n15_ n16_ n17_
          clear hb hbox hg
          refine hK.out _ _ ⟨(zb BK235.out 0).trans rfl, (zb BK235.out 1).trans rfl, (zb BK235.out 2).trans rfl, (zb BK235.out 3).trans rfl, HS4_, HS5_, HS6_⟩ (fun hHeld => ?_)
          clear hK K
          refine zma (a' := ?_) ?_ ?_
          rotate_left
          ·show Act.put _ (some 12) _ = _
           simp only [Act.put, List.setIfInBounds_toArray, List.set_cons_zero, List.set_cons_succ, zz, zy]
           rfl
          refine one_ (i := 6) (N := some 95) #[true, true, true, true, true, true, true, false, false, false, true, false, false] rfl rfl (ztb HT_.out (by kernel_rfl)) (by decide) (fun K hK => ?_)
          refine zyd Try.func76 (by kernel_rfl) rfl #[.pointer (some ⟨gb209, 0, none⟩), .agg #[.int .i16 t231, .int .i16 t232, .int .i16 t233, .int .i16 t234], .agg #[.int .i8 ((zi x7_3 x11_3).f0), .int .i8 ((zi x7_3 x11_3).f1), .int .i8 ((zi x7_3 x11_3).f2)]] (by rfl) rfl rfl (by (try simp only [List.map_toArray, List.map_cons, List.map_nil]); first | done | rfl | (simp only [List.length_drop, List.length_take]; rfl)) ?_
          with_reducible refine (spec_l02Move.calls gb209 A0_0 c0_0 l0_0 x210001_3 x210002_3 x210003_3 x210004_3 x210005_3 t231 t232 t233 t234 ((zi x7_3 x11_3).f0) ((zi x7_3 x11_3).f1) ((zi x7_3 x11_3).f2) t237 t238 t239 t240 t241 _ ?side1 ?side2 ?side3 A55.out).mono ?_
          (case side1 => exact uK BK209)
          (case side2 => exact uC HR0_0 HB)
          (case side3 => exact HC0_0.out)
          rintro e w64 ⟨rfl, hb⟩
          have HS4_ := (hb.cell (World.block_lt_of_cell? _ _ (hHeld.2.2.2.2.1))).trans (hHeld.2.2.2.2.1)
          have HS5_ := (hb.cell (World.block_lt_of_cell? _ _ (hHeld.2.2.2.2.2.1))).trans (hHeld.2.2.2.2.2.1)
          have HS6_ := (hb.cell (World.block_lt_of_cell? _ _ (hHeld.2.2.2.2.2.2))).trans (hHeld.2.2.2.2.2.2)
          refine ⟨_, rfl, ?_⟩
          have n0_ := dR HO_7 hb
          have n1_ := dR HO_154 hb
          have n2_ := dR HO_155 hb
          have n3_ := dR HO_156 hb
          have n4_ := dR HO_157 hb
          have n5_ := dK BK209 hb
          have n6_ := za.mk (zdb BK220.out (by intro h_; (with_reducible repeat (first | refine ze ?_ _ | refine zf ?_ | refine zc ?_ _)); exact h_) hb)
          have n7_ := dK BK235 hb
          have n8_ := dK BK242 hb
          have n9_ := za.mk (zh sB hb)
          clear HO_7
          clear HO_154
          clear HO_155
          clear HO_156
          clear HO_157
          clear BK209
          clear BK220
          clear BK235
          clear BK242
          clear HB
          have HO_7 := n0_
          have HO_154 := n1_
          have HO_155 := n2_
          have HO_156 := n3_
          have HO_157 := n4_
          have BK209 := n5_
          have BK220 := n6_
          have BK235 := n7_
          have BK242 := n8_
          have HB := n9_
          clear n0_ n1_ n2_ n3_ n4_ n5_ n6_ n7_ n8_ n9_
          (try clear hb)
          (try clear hb2)
          (try clear hk)
          (try clear hi)
          refine hK.out _ _ ⟨(zb BK235.out 0).trans rfl, (zb BK235.out 1).trans rfl, (zb BK235.out 2).trans rfl, (zb BK235.out 3).trans rfl, HS4_, HS5_, HS6_⟩ (fun hHeld => ?_)
          clear hK K
          refine zma (a' := ?_) ?_ ?_
          rotate_left
          ·show Act.put _ (some 95) _ = _
           simp only [Act.put, List.setIfInBounds_toArray, List.set_cons_zero, List.set_cons_succ, zz, zy]
           rfl
          refine zfa (i := 7) (N := some 88) (v := ?_) (a' := ?_) #[true, true, true, true, true, true, true, true, false, false, true, false, false] rfl rfl (zda HT_.out (by kernel_rfl)) (fun _ _ _ h => h) (Or.inl ⟨by rfl, ?_⟩) ?_ ?_
          rotate_left
          ·intro w'
           go_simp
           with_reducible rfl
          rotate_left
          ·simp only [Act.put, List.setIfInBounds_toArray, List.set_cons_zero, List.set_cons_succ, zz, zy]
           rfl
          refine zfa (i := 8) (N := some 96) (v := ?_) (a' := ?_) #[true, true, true, true, true, true, true, true, true, false, true, false, false] rfl rfl (zda HT_.out (by kernel_rfl)) (fun _ _ _ h => h) (Or.inl ⟨by rfl, ?_⟩) ?_ ?_
          rotate_left
          ·intro w'
           go_simp
           with_reducible rfl
          rotate_left
          ·simp only [Act.put, List.setIfInBounds_toArray, List.set_cons_zero, List.set_cons_succ, zz, zy]
           rfl
          refine zfa (i := 9) (N := some 97) (v := ?_) (a' := ?_) #[true, true, true, true, true, true, true, true, true, true, true, false, false] rfl rfl (zda HT_.out (by kernel_rfl)) (fun _ _ _ h => h) (Or.inl ⟨by rfl, ?_⟩) ?_ ?_
          rotate_left
          ·intro w'
           go_simp
           with_reducible rfl
          rotate_left
          ·simp only [Act.put, List.setIfInBounds_toArray, List.set_cons_zero, List.set_cons_succ, zz, zy]
           rfl
          exact zma (by simp only [zra, Act.put, List.setIfInBounds_toArray, List.set_cons_zero, List.set_cons_succ]) (hCont (gb242) _ ⟨hHeld, (uR HO_154), (uR HO_155), (uR HO_156), (uR HO_157), (uR HO_7), (uK BK209), (uK BK220), (uK BK235), (uK BK242), GW242.out, GE242.out, NB209_242.out, NB242_209.out, NB220_242.out, NB242_220.out, NB235_242.out, NB242_235.out, sB⟩)
         rintro gb242 w65 ⟨hS_, h0_, h1_, h2_, h3_, h4_, h5_, h6_, h7_, h8_, h9_, h10_, h11_, h12_, h13_, h14_, h15_, h16_, h17_⟩
         have n0_ : za (Kd.R (Kd.int .i16) 25 w65 w.heap.size (fun _ => True) (.slice (some ⟨go29, 0, none⟩) x154_3.length co29) x154_3) := ⟨h0_⟩
         have n1_ : za (Kd.R (Kd.int .i64) 2 w65 w.heap.size (fun k_ => some k_ ≠ (u157 : Value).ownBlock) v215 x155_3) := ⟨h1_⟩
         have n2_ : za (Kd.R k80 80 w65 w.heap.size (fun k_ => some k_ ≠ (.slice (some ad236) x7_3.length co61 : Value).ownBlock) v218 x156_3) := ⟨h2_⟩
         have n3_ : za (Kd.R (Kd.int .i64) 2 w65 w.heap.size (fun k_ => some k_ ≠ (v215 : Value).ownBlock) u157 x157_3) := ⟨h3_⟩
         have n4_ : za (Kd.R k80 80 w65 w.heap.size (fun k_ => some k_ ≠ (v218 : Value).ownBlock) (.slice (some ad236) x7_3.length co61) x7_3) := ⟨h4_⟩
         have n5_ : za (w65.heap[gb209]? = some (.cells #[.slice A0_0 l0_0.length c0_0, .int .i16 x210001_3, .int .i16 x210002_3, .int .i16 x210003_3, .int .i16 x210004_3, .bool x210005_3] 29 (0, 0))) := ⟨h5_⟩
         have n6_ : za (w65.heap[gb220]? = some (.cells #[.slice (some ⟨go29, 0, none⟩) x154_3.length co29, v215, v218, u157] 87 (0, 0))) := ⟨h6_⟩
         have n7_ : za (w65.heap[gb235]? = some (.cells #[.int .i16 t231, .int .i16 t232, .int .i16 t233, .int .i16 t234] 27 (0, 0))) := ⟨h7_⟩
         have n8_ : za (w65.heap[gb242]? = some (.cells #[.int .i16 0, .int .i16 0, .int .i16 0, .int .i16 0] 27 (0, 0))) := ⟨h8_⟩
         have n9_ : za (w.heap.size ≤ gb242) := ⟨h9_⟩
         have n10_ : za (w.heap.size ≤ gb242) := ⟨h10_⟩
         have n11_ : za (gb209 ≠ gb242) := ⟨h11_⟩
         have n12_ : za (gb242 ≠ gb209) := ⟨h12_⟩
         have n13_ : za (gb220 ≠ gb242) := ⟨h13_⟩
         have n14_ : za (gb242 ≠ gb220) := ⟨h14_⟩
         have n15_ : za (gb235 ≠ gb242) := ⟨h15_⟩
         have n16_ : za (gb242 ≠ gb235) := ⟨h16_⟩
         have n17_ : za (Below w.heap.size w w65) := ⟨h17_⟩
         clear HO_7
         clear HO_154
         clear HO_155
         clear HO_156
         clear HO_157
         clear BK209
         clear BK220
         clear BK235
         clear HB
         clear h0_ h1_ h2_ h3_ h4_ h5_ h6_ h7_ h8_ h9_ h10_ h11_ h12_ h13_ h14_ h15_ h16_ h17_
         have HO_154 := n0_
         have HO_155 := n1_
         have HO_156 := n2_
         have HO_157 := n3_
         have HO_7 := n4_
         have BK209 := n5_
         have BK220 := n6_
         have BK235 := n7_
         have BK242 := n8_
         have GW242 := n9_
         have GE242 := n10_
         have NB209_242 := n11_
         have NB242_209 := n12_
         have NB220_242 := n13_
         have NB242_220 := n14_
         have NB235_242 := n15_
         have NB242_235 := n16_
         have HB := n17_
         clear n0_ n1_ n2_ n3_ n4_ n5_ n6_ n7_ n8_ n9_ n10_ n11_ n12_ n13_ n14_ n15_ n16_ n17_
         have hHeld : w65.cell? ⟨gb235, 0, none⟩ = some (.int .i16 t231) ∧ w65.cell? ⟨gb235, 1, none⟩ = some (.int .i16 t232) ∧ w65.cell? ⟨gb235, 2, none⟩ = some (.int .i16 t233) ∧ w65.cell? ⟨gb235, 3, none⟩ = some (.int .i16 t234) ∧ w65.cell? (ad236.add ((x11_3).toNat * 3)) = some (.int .i8 ((zi x7_3 x11_3).f0)) ∧ w65.cell? ⟨(ad236.add ((x11_3).toNat * 3)).block, (ad236.add ((x11_3).toNat * 3)).off + 1, none⟩ = some (.int .i8 ((zi x7_3 x11_3).f1)) ∧ w65.cell? ⟨(ad236.add ((x11_3).toNat * 3)).block, (ad236.add ((x11_3).toNat * 3)).off + 2, none⟩ = some (.int .i8 ((zi x7_3 x11_3).f2)) := hS_
         refine zma (a' := ?_) ?_ ?_
         rotate_left
         ·simp only [zra, Act.put, List.setIfInBounds_toArray, List.set_cons_zero, List.set_cons_succ]
          rfl
         refine one_ (i := 11) (N := none) #[true, true, true, true, true, true, true, true, true, true, true, true, false] rfl rfl (ztb HT_.out (by kernel_rfl)) (by decide) (fun K hK => ?_)
         have hs66 : w65.cell? ⟨gb242, 0, none⟩ = some (.int .i16 0) := (zb BK242.out 0).trans rfl
         have hfs66 := zg BK242.out 0
         have hns66_0 := NB209_242.out
         have hns66_1 := NB220_242.out
         have hns66_2 := NB235_242.out
         have hms66_0 := NB242_209.out
         have hms66_1 := NB242_220.out
         have hms66_2 := NB242_235.out
         have hs67 : w65.cell? ⟨gb242, 1, none⟩ = some (.int .i16 0) := (zb BK242.out 1).trans rfl
         have hfs67 := zg BK242.out 1
         have hns67_0 := NB209_242.out
         have hns67_1 := NB220_242.out
         have hns67_2 := NB235_242.out
         have hms67_0 := NB242_209.out
         have hms67_1 := NB242_220.out
         have hms67_2 := NB242_235.out
         have hs68 : w65.cell? ⟨gb242, 2, none⟩ = some (.int .i16 0) := (zb BK242.out 2).trans rfl
         have hfs68 := zg BK242.out 2
         have hns68_0 := NB209_242.out
         have hns68_1 := NB220_242.out
         have hns68_2 := NB235_242.out
         have hms68_0 := NB242_209.out
         have hms68_1 := NB242_220.out
         have hms68_2 := NB242_235.out
         have hs69 : w65.cell? ⟨gb242, 3, none⟩ = some (.int .i16 0) := (zb BK242.out 3).trans rfl
         have hfs69 := zg BK242.out 3
         have hns69_0 := NB209_242.out
         have hns69_1 := NB220_242.out
         have hns69_2 := NB235_242.out
         have hms69_0 := NB242_209.out
         have hms69_1 := NB242_220.out
         have hms69_2 := NB242_235.out
         refine skip_ (w1 := ?_) (by rfl) rfl ?_ ?_
         rotate_left
         ·go_simp
          rfl
         refine hK.out _ _ ⟨((zr (p := ⟨gb242, _, none⟩) NB235_242.out _).trans (((zr (p := ⟨gb242, _, none⟩) NB235_242.out _).trans (((zr (p := ⟨gb242, _, none⟩) NB235_242.out _).trans (((zr (p := ⟨gb242, _, none⟩) NB235_242.out _).trans (hHeld.1)))))))), ((zr (p := ⟨gb242, _, none⟩) NB235_242.out _).trans (((zr (p := ⟨gb242, _, none⟩) NB235_242.out _).trans (((zr (p := ⟨gb242, _, none⟩) NB235_242.out _).trans (((zr (p := ⟨gb242, _, none⟩) NB235_242.out _).trans (hHeld.2.1)))))))), ((zr (p := ⟨gb242, _, none⟩) NB235_242.out _).trans (((zr (p := ⟨gb242, _, none⟩) NB235_242.out _).trans (((zr (p := ⟨gb242, _, none⟩) NB235_242.out _).trans (((zr (p := ⟨gb242, _, none⟩) NB235_242.out _).trans (hHeld.2.2.1)))))))), ((zr (p := ⟨gb242, _, none⟩) NB235_242.out _).trans (((zr (p := ⟨gb242, _, none⟩) NB235_242.out _).trans (((zr (p := ⟨gb242, _, none⟩) NB235_242.out _).trans (((zr (p := ⟨gb242, _, none⟩) NB235_242.out _).trans (hHeld.2.2.2.1)))))))), ((zr (p := ⟨gb242, _, none⟩) (by first | exact Kd.own_blk (Kd.R_ne HO_7.out BK242.out (by decide)) | (rw [zq]; exact Kd.own_blk (Kd.R_ne HO_7.out BK242.out (by decide))) | (show (Addr.add _ _).block ≠ _; rw [zq]; exact Kd.own_blk (Kd.R_ne HO_7.out BK242.out (by decide))) | (dsimp only; exact Kd.own_blk (Kd.R_ne HO_7.out BK242.out (by decide)))) _).trans (((zr (p := ⟨gb242, _, none⟩) (by first | exact Kd.own_blk (Kd.R_ne HO_7.out BK242.out (by decide)) | (rw [zq]; exact Kd.own_blk (Kd.R_ne HO_7.out BK242.out (by decide))) | (show (Addr.add _ _).block ≠ _; rw [zq]; exact Kd.own_blk (Kd.R_ne HO_7.out BK242.out (by decide))) | (dsimp only; exact Kd.own_blk (Kd.R_ne HO_7.out BK242.out (by decide)))) _).trans (((zr (p := ⟨gb242, _, none⟩) (by first | exact Kd.own_blk (Kd.R_ne HO_7.out BK242.out (by decide)) | (rw [zq]; exact Kd.own_blk (Kd.R_ne HO_7.out BK242.out (by decide))) | (show (Addr.add _ _).block ≠ _; rw [zq]; exact Kd.own_blk (Kd.R_ne HO_7.out BK242.out (by decide))) | (dsimp only; exact Kd.own_blk (Kd.R_ne HO_7.out BK242.out (by decide)))) _).trans (((zr (p := ⟨gb242, _, none⟩) (by first | exact Kd.own_blk (Kd.R_ne HO_7.out BK242.out (by decide)) | (rw [zq]; exact Kd.own_blk (Kd.R_ne HO_7.out BK242.out (by decide))) | (show (Addr.add _ _).block ≠ _; rw [zq]; exact Kd.own_blk (Kd.R_ne HO_7.out BK242.out (by decide))) | (dsimp only; exact Kd.own_blk (Kd.R_ne HO_7.out BK242.out (by decide)))) _).trans (hHeld.2.2.2.2.1)))))))), ((zr (p := ⟨gb242, _, none⟩) (by first | exact Kd.own_blk (Kd.R_ne HO_7.out BK242.out (by decide)) | (rw [zq]; exact Kd.own_blk (Kd.R_ne HO_7.out BK242.out (by decide))) | (show (Addr.add _ _).block ≠ _; rw [zq]; exact Kd.own_blk (Kd.R_ne HO_7.out BK242.out (by decide))) | (dsimp only; exact Kd.own_blk (Kd.R_ne HO_7.out BK242.out (by decide)))) _).trans (((zr (p := ⟨gb242, _, none⟩) (by first | exact Kd.own_blk (Kd.R_ne HO_7.out BK242.out (by decide)) | (rw [zq]; exact Kd.own_blk (Kd.R_ne HO_7.out BK242.out (by decide))) | (show (Addr.add _ _).block ≠ _; rw [zq]; exact Kd.own_blk (Kd.R_ne HO_7.out BK242.out (by decide))) | (dsimp only; exact Kd.own_blk (Kd.R_ne HO_7.out BK242.out (by decide)))) _).trans (((zr (p := ⟨gb242, _, none⟩) (by first | exact Kd.own_blk (Kd.R_ne HO_7.out BK242.out (by decide)) | (rw [zq]; exact Kd.own_blk (Kd.R_ne HO_7.out BK242.out (by decide))) | (show (Addr.add _ _).block ≠ _; rw [zq]; exact Kd.own_blk (Kd.R_ne HO_7.out BK242.out (by decide))) | (dsimp only; exact Kd.own_blk (Kd.R_ne HO_7.out BK242.out (by decide)))) _).trans (((zr (p := ⟨gb242, _, none⟩) (by first | exact Kd.own_blk (Kd.R_ne HO_7.out BK242.out (by decide)) | (rw [zq]; exact Kd.own_blk (Kd.R_ne HO_7.out BK242.out (by decide))) | (show (Addr.add _ _).block ≠ _; rw [zq]; exact Kd.own_blk (Kd.R_ne HO_7.out BK242.out (by decide))) | (dsimp only; exact Kd.own_blk (Kd.R_ne HO_7.out BK242.out (by decide)))) _).trans (hHeld.2.2.2.2.2.1)))))))), ((zr (p := ⟨gb242, _, none⟩) (by first | exact Kd.own_blk (Kd.R_ne HO_7.out BK242.out (by decide)) | (rw [zq]; exact Kd.own_blk (Kd.R_ne HO_7.out BK242.out (by decide))) | (show (Addr.add _ _).block ≠ _; rw [zq]; exact Kd.own_blk (Kd.R_ne HO_7.out BK242.out (by decide))) | (dsimp only; exact Kd.own_blk (Kd.R_ne HO_7.out BK242.out (by decide)))) _).trans (((zr (p := ⟨gb242, _, none⟩) (by first | exact Kd.own_blk (Kd.R_ne HO_7.out BK242.out (by decide)) | (rw [zq]; exact Kd.own_blk (Kd.R_ne HO_7.out BK242.out (by decide))) | (show (Addr.add _ _).block ≠ _; rw [zq]; exact Kd.own_blk (Kd.R_ne HO_7.out BK242.out (by decide))) | (dsimp only; exact Kd.own_blk (Kd.R_ne HO_7.out BK242.out (by decide)))) _).trans (((zr (p := ⟨gb242, _, none⟩) (by first | exact Kd.own_blk (Kd.R_ne HO_7.out BK242.out (by decide)) | (rw [zq]; exact Kd.own_blk (Kd.R_ne HO_7.out BK242.out (by decide))) | (show (Addr.add _ _).block ≠ _; rw [zq]; exact Kd.own_blk (Kd.R_ne HO_7.out BK242.out (by decide))) | (dsimp only; exact Kd.own_blk (Kd.R_ne HO_7.out BK242.out (by decide)))) _).trans (((zr (p := ⟨gb242, _, none⟩) (by first | exact Kd.own_blk (Kd.R_ne HO_7.out BK242.out (by decide)) | (rw [zq]; exact Kd.own_blk (Kd.R_ne HO_7.out BK242.out (by decide))) | (show (Addr.add _ _).block ≠ _; rw [zq]; exact Kd.own_blk (Kd.R_ne HO_7.out BK242.out (by decide))) | (dsimp only; exact Kd.own_blk (Kd.R_ne HO_7.out BK242.out (by decide)))) _).trans (hHeld.2.2.2.2.2.2))))))))⟩ (fun hHeld => ?_)
         clear hK K
         refine zfa (i := 12) (N := some 13) (v := ?_) (a' := ?_) #[true, true, true, true, true, true, true, true, true, true, true, true, true] rfl rfl (zda HT_.out (by kernel_rfl)) (fun _ _ _ h => h) (Or.inl ⟨by rfl, ?_⟩) ?_ ?_
         rotate_left
         ·intro w'
          go_simp
          with_reducible rfl
         rotate_left
         ·simp only [Act.put, List.setIfInBounds_toArray, List.set_cons_zero, List.set_cons_succ, zz, zy]
          rfl
         refine zae (zfc HT_.out (by kernel_rfl)) ?_
         have H := HS_.out
         clear HS_
         by_cases c56 : t241 = 0
         ·rw [if_pos c56] at H
          have c56b0 : (t241 == 0) = true := beq_iff_eq.mpr c56
          have c56b1 : (t241 != 0) = false := bne_eq_false_iff_eq.mpr c56
          clear c56
          replace H := Option.bind_eq_some_iff.mp H
          obtain ⟨t243, A570, H⟩ := H
          replace H : (if 0 ≤ t243 then (if t243 < (x154_3.length : Int) then (if (rd x154_3 t243) ≥ 0 then (spec_l02Find.l2 k3 x7_3 x8_2 (rd x157_2 x8_2) (wrap64 (x11_3 + 1)) x154_3 x155_3 x156_3 x157_3 l0_0 x210001_3 x210002_3 x210003_3 x210004_3 x210005_3 t231 t232 t233 t234) else (if 0 ≤ (rd x157_2 x8_2) then (if (rd x157_2 x8_2) < (x154_3.length : Int) then (if t243 < (x155_3.length : Int) then (if t243 < (x156_3.length : Int) then (if x157_3.length < 17592186044416 then (spec_l02Find.l2 k3 x7_3 x8_2 (rd x157_2 x8_2) (wrap64 (x11_3 + 1)) (x154_3.set (t243 : Int).toNat (IntKind.i16.wrap ((rd x154_3 (rd x157_2 x8_2)) + 1))) (x155_3.set (t243 : Int).toNat (rd x157_2 x8_2)) (x156_3.set (t243 : Int).toNat (⟨(zi x7_3 x11_3).f0, (zi x7_3 x11_3).f1, (zi x7_3 x11_3).f2⟩ : S80)) (x157_3 ++ [t243]) l0_0 x210001_3 x210002_3 x210003_3 x210004_3 x210005_3 t231 t232 t233 t234) else (none)) else (none)) else (none)) else (none)) else (none))) else (none)) else (none)) = some r := H
          have A57 := za.mk A570
          clear A570
          by_cases c58 : 0 ≤ t243
          rotate_left
          ·rw [if_neg c58] at H
           exact absurd H (by simp)
          rw [if_pos c58] at H
          have c58b0 : decide (0 ≤ t243) = true := decide_eq_true c58
          clear c58
          by_cases c59 : t243 < (x154_3.length : Int)
          rotate_left
          ·rw [if_neg c59] at H
           exact absurd H (by simp)
          rw [if_pos c59] at H
          have c59b0 : decide (t243 < (x154_3.length : Int)) = true := decide_eq_true c59
          clear c59
          by_cases c60 : (rd x154_3 t243) ≥ 0
          ·rw [if_pos c60] at H
           have c60b0 : decide (0 ≤ (rd x154_3 t243)) = true := decide_eq_true c60
           clear c60
           have H' := za.mk H
           clear H
           have hnb70 := NB242_209.out
           have hnc70 := NB209_242.out
           have hnb71 := NB242_220.out
           have hnc71 := NB220_242.out
           have hnb72 := NB242_235.out
           have hnc72 := NB235_242.out
           obtain ⟨hcz73_0, hcz73_1, hcz73_2, hcz73_3⟩ := xc4 BK242
           obtain ⟨hfz73_0, hfz73_1, hfz73_2, hfz73_3⟩ := xf4 BK242
           try go_wp2_with (first | ((with_reducible refine zn (f := 63) rfl ?_); refine gz (some 102) Try.func63 #[.pointer (some ⟨gb209, 0, none⟩), .agg #[.int .i16 t237, .int .i16 t238, .int .i16 t239, .int .i16 t240]] rfl rfl ?_; (with_reducible refine (spec_l02Index.calls k3 gb209 A0_0 c0_0 l0_0 x210001_3 x210002_3 x210003_3 x210004_3 x210005_3 t237 t238 t239 t240 t243 _ ?side1 ?side2 ?side3 A57.out).mono ?_); (case side1 => (with_reducible repeat (first | refine ze ?_ _ | refine zf ?_ | refine zc ?_ _)); refine zm ?_ NB209_242.out _; (with_reducible repeat (first | refine ze ?_ _ | refine zf ?_ | refine zc ?_ _)); refine zm ?_ NB209_242.out _; (with_reducible repeat (first | refine ze ?_ _ | refine zf ?_ | refine zc ?_ _)); refine zm ?_ NB209_242.out _; (with_reducible repeat (first | refine ze ?_ _ | refine zf ?_ | refine zc ?_ _)); refine zm ?_ NB209_242.out _; (with_reducible repeat (first | refine ze ?_ _ | refine zf ?_ | refine zc ?_ _)); exact BK209.out); (case side2 => exact Kd.C_below HR0_0.out sB); (case side3 => exact HC0_0.out); rintro e w74 ⟨rfl, hb⟩; refine ⟨_, rfl, ?_⟩; have n0_ := za.mk (Kd.R_below (by (with_reducible repeat (first | apply Kd.R_alloc | apply Kd.R_drewN | apply Kd.R_drew)); exact (Kd.R_mono (Kd.R_far (p := ⟨gb242, 3, none⟩) (Kd.R_far (p := ⟨gb242, 2, none⟩) (Kd.R_far (p := ⟨gb242, 1, none⟩) (Kd.R_far (p := ⟨gb242, 0, none⟩) (Kd.R_types HO_7.out BK242.out (by decide)) (fun _ hk => hk.2) (.int .i16 t237)) (fun _ hk => hk.2) (.int .i16 t238)) (fun _ hk => hk.2) (.int .i16 t239)) (fun _ hk => hk.2) (.int .i16 t240)) (fun _ h_ => h_.1))) hb); have n1_ := za.mk (Kd.R_below (by (with_reducible repeat (first | apply Kd.R_alloc | apply Kd.R_drewN | apply Kd.R_drew)); exact (Kd.R_mono (Kd.R_far (p := ⟨gb242, 3, none⟩) (Kd.R_far (p := ⟨gb242, 2, none⟩) (Kd.R_far (p := ⟨gb242, 1, none⟩) (Kd.R_far (p := ⟨gb242, 0, none⟩) (Kd.R_types HO_154.out BK242.out (by decide)) (fun _ hk => hk.2) (.int .i16 t237)) (fun _ hk => hk.2) (.int .i16 t238)) (fun _ hk => hk.2) (.int .i16 t239)) (fun _ hk => hk.2) (.int .i16 t240)) (fun _ h_ => h_.1))) hb); have n2_ := za.mk (Kd.R_below (by (with_reducible repeat (first | apply Kd.R_alloc | apply Kd.R_drewN | apply Kd.R_drew)); exact (Kd.R_mono (Kd.R_far (p := ⟨gb242, 3, none⟩) (Kd.R_far (p := ⟨gb242, 2, none⟩) (Kd.R_far (p := ⟨gb242, 1, none⟩) (Kd.R_far (p := ⟨gb242, 0, none⟩) (Kd.R_types HO_155.out BK242.out (by decide)) (fun _ hk => hk.2) (.int .i16 t237)) (fun _ hk => hk.2) (.int .i16 t238)) (fun _ hk => hk.2) (.int .i16 t239)) (fun _ hk => hk.2) (.int .i16 t240)) (fun _ h_ => h_.1))) hb); have n3_ := za.mk (Kd.R_below (by (with_reducible repeat (first | apply Kd.R_alloc | apply Kd.R_drewN | apply Kd.R_drew)); exact (Kd.R_mono (Kd.R_far (p := ⟨gb242, 3, none⟩) (Kd.R_far (p := ⟨gb242, 2, none⟩) (Kd.R_far (p := ⟨gb242, 1, none⟩) (Kd.R_far (p := ⟨gb242, 0, none⟩) (Kd.R_types HO_156.out BK242.out (by decide)) (fun _ hk => hk.2) (.int .i16 t237)) (fun _ hk => hk.2) (.int .i16 t238)) (fun _ hk => hk.2) (.int .i16 t239)) (fun _ hk => hk.2) (.int .i16 t240)) (fun _ h_ => h_.1))) hb); have n4_ := za.mk (Kd.R_below (by (with_reducible repeat (first | apply Kd.R_alloc | apply Kd.R_drewN | apply Kd.R_drew)); exact (Kd.R_mono (Kd.R_far (p := ⟨gb242, 3, none⟩) (Kd.R_far (p := ⟨gb242, 2, none⟩) (Kd.R_far (p := ⟨gb242, 1, none⟩) (Kd.R_far (p := ⟨gb242, 0, none⟩) (Kd.R_types HO_157.out BK242.out (by decide)) (fun _ hk => hk.2) (.int .i16 t237)) (fun _ hk => hk.2) (.int .i16 t238)) (fun _ hk => hk.2) (.int .i16 t239)) (fun _ hk => hk.2) (.int .i16 t240)) (fun _ h_ => h_.1))) hb); have n5_ := za.mk (zca (g := gb209) (o := .cells #[.slice A0_0 l0_0.length c0_0, .int .i16 x210001_3, .int .i16 x210002_3, .int .i16 x210003_3, .int .i16 x210004_3, .bool x210005_3] 29 (0, 0)) (by (with_reducible repeat (first | refine ze ?_ _ | refine zf ?_ | refine zc ?_ _)); refine zm ?_ NB209_242.out _; (with_reducible repeat (first | refine ze ?_ _ | refine zf ?_ | refine zc ?_ _)); refine zm ?_ NB209_242.out _; (with_reducible repeat (first | refine ze ?_ _ | refine zf ?_ | refine zc ?_ _)); refine zm ?_ NB209_242.out _; (with_reducible repeat (first | refine ze ?_ _ | refine zf ?_ | refine zc ?_ _)); refine zm ?_ NB209_242.out _; (with_reducible repeat (first | refine ze ?_ _ | refine zf ?_ | refine zc ?_ _)); exact BK209.out) hb); have n6_ := za.mk (zdb BK220.out (by intro h_; (with_reducible repeat (first | refine ze ?_ _ | refine zf ?_ | refine zc ?_ _)); refine zka ?_ NB220_242.out _; (with_reducible repeat (first | refine ze ?_ _ | refine zf ?_ | refine zc ?_ _)); refine zka ?_ NB220_242.out _; (with_reducible repeat (first | refine ze ?_ _ | refine zf ?_ | refine zc ?_ _)); refine zka ?_ NB220_242.out _; (with_reducible repeat (first | refine ze ?_ _ | refine zf ?_ | refine zc ?_ _)); refine zka ?_ NB220_242.out _; (with_reducible repeat (first | refine ze ?_ _ | refine zf ?_ | refine zc ?_ _)); exact h_) hb); have n7_ := za.mk (zca (g := gb235) (o := .cells #[.int .i16 t231, .int .i16 t232, .int .i16 t233, .int .i16 t234] 27 (0, 0)) (by (with_reducible repeat (first | refine ze ?_ _ | refine zf ?_ | refine zc ?_ _)); refine zm ?_ NB235_242.out _; (with_reducible repeat (first | refine ze ?_ _ | refine zf ?_ | refine zc ?_ _)); refine zm ?_ NB235_242.out _; (with_reducible repeat (first | refine ze ?_ _ | refine zf ?_ | refine zc ?_ _)); refine zm ?_ NB235_242.out _; (with_reducible repeat (first | refine ze ?_ _ | refine zf ?_ | refine zc ?_ _)); refine zm ?_ NB235_242.out _; (with_reducible repeat (first | refine ze ?_ _ | refine zf ?_ | refine zc ?_ _)); exact BK235.out) hb); have n8_ := za.mk (zca (g := gb242) (o := .cells #[.int .i16 t237, .int .i16 t238, .int .i16 t239, .int .i16 t240] 27 (0, 0)) (by (with_reducible repeat (first | refine ze ?_ _ | refine zf ?_ | refine zc ?_ _)); refine zx (cs := #[.int .i16 t237, .int .i16 t238, .int .i16 t239, .int .i16 0]) ?_ 3 _ rfl; (with_reducible repeat (first | refine ze ?_ _ | refine zf ?_ | refine zc ?_ _)); refine zx (cs := #[.int .i16 t237, .int .i16 t238, .int .i16 0, .int .i16 0]) ?_ 2 _ rfl; (with_reducible repeat (first | refine ze ?_ _ | refine zf ?_ | refine zc ?_ _)); refine zx (cs := #[.int .i16 t237, .int .i16 0, .int .i16 0, .int .i16 0]) ?_ 1 _ rfl; (with_reducible repeat (first | refine ze ?_ _ | refine zf ?_ | refine zc ?_ _)); refine zx (cs := #[.int .i16 0, .int .i16 0, .int .i16 0, .int .i16 0]) ?_ 0 _ rfl; (with_reducible repeat (first | refine ze ?_ _ | refine zf ?_ | refine zc ?_ _)); exact BK242.out) hb); have n9_ := za.mk (zh sB hb); clear HO_7; clear HO_154; clear HO_155; clear HO_156; clear HO_157; clear BK209; clear BK220; clear BK235; clear BK242; clear HB; have HO_7 := n0_; have HO_154 := n1_; have HO_155 := n2_; have HO_156 := n3_; have HO_157 := n4_; have BK209 := n5_; have BK220 := n6_; have BK235 := n7_; have BK242 := n8_; have HB := n9_; clear n0_ n1_ n2_ n3_ n4_ n5_ n6_ n7_ n8_ n9_; try clear hb; have hnb75 := NB220_209.out; have hnc75 := NB209_220.out; have hnb76 := NB220_235.out; have hnc76 := NB235_220.out; have hcz77_0 := zic BK220.out; have hcz77_1 := zuc BK220.out; have hcz77_2 := zmc BK220.out; have hcz77_3 := zkc BK220.out; have hfz77_0 := zg BK220.out 0; have hfz77_3 := zg BK220.out 3; have p244 : 0 ≤ (t243 : Int) := of_decide_eq_true (by first | (with_reducible assumption) | assumption); have q244 : t243 < (x154_3.length : Int) := of_decide_eq_true (by first | (with_reducible assumption) | assumption); obtain ⟨ad244, e244, hx244_0⟩ := Kd.at_int (Kd.R_reads' HO_154.out).2.2 t243 p244 q244; obtain rfl : (⟨go29, 0, none⟩ : Addr) = ad244 := (by injection e244); (first | simp only [zsc] at hx244_0 | simp only [add_at] at hx244_0 | simp only [Addr.add, Nat.zero_add] at hx244_0 | skip); replace p244 := eq_true p244; replace q244 := eq_true q244))
           (try simp only [← hl154_3])
           go_roundg k3
           case measure => have := HK1.out; have := HK2.out; have := HK3.out; omega
           case rel => exact ⟨_, (x7_3), (wrap64 (x11_3 + 1)), (x154_3), (x155_3), (x156_3), (x157_3), (x210001_3), (x210002_3), (x210003_3), (x210004_3), (x210005_3), (by first | rfl | (simp; done) | (simp [*]; done)), H', ⟨by have := HK1.out; have := HK2.out; have := HK3.out; omega⟩, ⟨by (try simp only [hl154_2]); (try simp only [hl154_3]); (with_reducible repeat (first | apply Kd.R_alloc | apply Kd.R_drewN | apply Kd.R_drew)); exact HO_7.out⟩, ⟨by (try simp only [hl154_2]); (try simp only [hl154_3]); (with_reducible repeat (first | apply Kd.R_alloc | apply Kd.R_drewN | apply Kd.R_drew)); exact HO_154.out⟩, ⟨by (try simp only [hl154_2]); (try simp only [hl154_3]); (with_reducible repeat (first | apply Kd.R_alloc | apply Kd.R_drewN | apply Kd.R_drew)); exact HO_155.out⟩, ⟨by (try simp only [hl154_2]); (try simp only [hl154_3]); (with_reducible repeat (first | apply Kd.R_alloc | apply Kd.R_drewN | apply Kd.R_drew)); exact HO_156.out⟩, ⟨by (try simp only [hl154_2]); (try simp only [hl154_3]); (with_reducible repeat (first | apply Kd.R_alloc | apply Kd.R_drewN | apply Kd.R_drew)); exact HO_157.out⟩, ⟨by (try simp only [hl154_2]); (try simp only [hl154_3]); (with_reducible repeat (first | refine ze ?_ _ | refine zf ?_ | refine zc ?_ _)); exact BK209.out⟩, ⟨by (try simp only [hl154_2]); (try simp only [hl154_3]); (with_reducible repeat (first | refine ze ?_ _ | refine zf ?_ | refine zc ?_ _)); exact BK220.out⟩, ⟨by (try simp only [hl154_2]); (try simp only [hl154_3]); (with_reducible repeat (first | refine ze ?_ _ | refine zf ?_ | refine zc ?_ _)); exact BK235.out⟩, ⟨sB⟩⟩
          rw [if_neg c60] at H
          have c60b0 : decide (0 ≤ (rd x154_3 t243)) = false := decide_eq_false c60
          clear c60
          by_cases c78 : 0 ≤ (rd x157_2 x8_2)
          rotate_left
          ·rw [if_neg c78] at H
           exact absurd H (by simp)
          rw [if_pos c78] at H
          have c78b0 : decide (0 ≤ (rd x157_2 x8_2)) = true := decide_eq_true c78
          clear c78
          by_cases c79 : (rd x157_2 x8_2) < (x154_3.length : Int)
          rotate_left
          ·rw [if_neg c79] at H
           exact absurd H (by simp)
          rw [if_pos c79] at H
          have c79b0 : decide ((rd x157_2 x8_2) < (x154_3.length : Int)) = true := decide_eq_true c79
          clear c79
          obtain ⟨y246, hy246⟩ : ∃ y_ : List Int, y_ = (x154_3.set (t243 : Int).toNat (IntKind.i16.wrap ((rd x154_3 (rd x157_2 x8_2)) + 1))) := ⟨_, rfl⟩
          replace H : (if t243 < (x155_3.length : Int) then (if t243 < (x156_3.length : Int) then (if x157_3.length < 17592186044416 then (spec_l02Find.l2 k3 x7_3 x8_2 (rd x157_2 x8_2) (wrap64 (x11_3 + 1)) y246 (x155_3.set (t243 : Int).toNat (rd x157_2 x8_2)) (x156_3.set (t243 : Int).toNat (⟨(zi x7_3 x11_3).f0, (zi x7_3 x11_3).f1, (zi x7_3 x11_3).f2⟩ : S80)) (x157_3 ++ [t243]) l0_0 x210001_3 x210002_3 x210003_3 x210004_3 x210005_3 t231 t232 t233 t234) else (none)) else (none)) else (none)) = some r := by first | (rw [hy246]; with_reducible exact H) | (have H2_ := (Option.bind_some _ _).symm.trans H; rw [hy246]; with_reducible exact H2_) | (have H2_ := (Option.bind_some _ _).symm.trans H; with_reducible exact H2_) | with_reducible exact H | (rw [hy246]; exact H) | exact H
          have Ny246 := za.mk hy246
          clear hy246
          by_cases c81 : t243 < (x155_3.length : Int)
          rotate_left
          ·rw [if_neg c81] at H
           exact absurd H (by simp)
          rw [if_pos c81] at H
          have c81b0 : decide (t243 < (x155_3.length : Int)) = true := decide_eq_true c81
          clear c81
          obtain ⟨y247, hy247⟩ : ∃ y_ : List Int, y_ = (x155_3.set (t243 : Int).toNat (rd x157_2 x8_2)) := ⟨_, rfl⟩
          replace H : (if t243 < (x156_3.length : Int) then (if x157_3.length < 17592186044416 then (spec_l02Find.l2 k3 x7_3 x8_2 (rd x157_2 x8_2) (wrap64 (x11_3 + 1)) y246 y247 (x156_3.set (t243 : Int).toNat (⟨(zi x7_3 x11_3).f0, (zi x7_3 x11_3).f1, (zi x7_3 x11_3).f2⟩ : S80)) (x157_3 ++ [t243]) l0_0 x210001_3 x210002_3 x210003_3 x210004_3 x210005_3 t231 t232 t233 t234) else (none)) else (none)) = some r := by first | (rw [hy247]; with_reducible exact H) | (have H2_ := (Option.bind_some _ _).symm.trans H; rw [hy247]; with_reducible exact H2_) | (have H2_ := (Option.bind_some _ _).symm.trans H; with_reducible exact H2_) | with_reducible exact H | (rw [hy247]; exact H) | exact H
          have Ny247 := za.mk hy247
          clear hy247
          by_cases c83 : t243 < (x156_3.length : Int)
          rotate_left
          ·rw [if_neg c83] at H
           exact absurd H (by simp)
          rw [if_pos c83] at H
          have c83b0 : decide (t243 < (x156_3.length : Int)) = true := decide_eq_true c83
          clear c83
          obtain ⟨y249, hy249⟩ : ∃ y_ : List (S80), y_ = (x156_3.set (t243 : Int).toNat (⟨(zi x7_3 x11_3).f0, (zi x7_3 x11_3).f1, (zi x7_3 x11_3).f2⟩ : S80)) := ⟨_, rfl⟩
          replace H : (if x157_3.length < 17592186044416 then (spec_l02Find.l2 k3 x7_3 x8_2 (rd x157_2 x8_2) (wrap64 (x11_3 + 1)) y246 y247 y249 (x157_3 ++ [t243]) l0_0 x210001_3 x210002_3 x210003_3 x210004_3 x210005_3 t231 t232 t233 t234) else (none)) = some r := by first | (rw [hy249]; with_reducible exact H) | (have H2_ := (Option.bind_some _ _).symm.trans H; rw [hy249]; with_reducible exact H2_) | (have H2_ := (Option.bind_some _ _).symm.trans H; with_reducible exact H2_) | with_reducible exact H | (rw [hy249]; exact H) | exact H
          have Ny249 := za.mk hy249
          clear hy249
          by_cases c85 : x157_3.length < 17592186044416
          rotate_left
          ·rw [if_neg c85] at H
           exact absurd H (by simp)
          rw [if_pos c85] at H
          have LMc85 := za.mk c85
          clear c85
          obtain ⟨y250, hy250⟩ : ∃ y_ : List Int, y_ = (x157_3 ++ [t243]) := ⟨_, rfl⟩
          replace H : (spec_l02Find.l2 k3 x7_3 x8_2 (rd x157_2 x8_2) (wrap64 (x11_3 + 1)) y246 y247 y249 y250 l0_0 x210001_3 x210002_3 x210003_3 x210004_3 x210005_3 t231 t232 t233 t234) = some r := by first | (rw [hy250]; with_reducible exact H) | (have H2_ := (Option.bind_some _ _).symm.trans H; rw [hy250]; with_reducible exact H2_) | (have H2_ := (Option.bind_some _ _).symm.trans H; with_reducible exact H2_) | with_reducible exact H | (rw [hy250]; exact H) | exact H
          have Ny250 := za.mk hy250
          clear hy250
          have H' := za.mk H
          clear H
          have hnb95 := NB242_209.out
          have hnc95 := NB209_242.out
          have hnb96 := NB242_220.out
          have hnc96 := NB220_242.out
          have hnb97 := NB242_235.out
          have hnc97 := NB235_242.out
          obtain ⟨hcz98_0, hcz98_1, hcz98_2, hcz98_3⟩ := xc4 BK242
          obtain ⟨hfz98_0, hfz98_1, hfz98_2, hfz98_3⟩ := xf4 BK242
          try go_wp2_with (first | ((with_reducible refine zn (f := 63) rfl ?_); refine gz (some 102) Try.func63 #[.pointer (some ⟨gb209, 0, none⟩), .agg #[.int .i16 t237, .int .i16 t238, .int .i16 t239, .int .i16 t240]] rfl rfl ?_; (with_reducible refine (spec_l02Index.calls k3 gb209 A0_0 c0_0 l0_0 x210001_3 x210002_3 x210003_3 x210004_3 x210005_3 t237 t238 t239 t240 t243 _ ?side1 ?side2 ?side3 A57.out).mono ?_); (case side1 => (with_reducible repeat (first | refine ze ?_ _ | refine zf ?_ | refine zc ?_ _)); refine zm ?_ NB209_242.out _; (with_reducible repeat (first | refine ze ?_ _ | refine zf ?_ | refine zc ?_ _)); refine zm ?_ NB209_242.out _; (with_reducible repeat (first | refine ze ?_ _ | refine zf ?_ | refine zc ?_ _)); refine zm ?_ NB209_242.out _; (with_reducible repeat (first | refine ze ?_ _ | refine zf ?_ | refine zc ?_ _)); refine zm ?_ NB209_242.out _; (with_reducible repeat (first | refine ze ?_ _ | refine zf ?_ | refine zc ?_ _)); exact BK209.out); (case side2 => exact Kd.C_below HR0_0.out sB); (case side3 => exact HC0_0.out); rintro e w99 ⟨rfl, hb⟩; refine ⟨_, rfl, ?_⟩; have n0_ := za.mk (Kd.R_below (by (with_reducible repeat (first | apply Kd.R_alloc | apply Kd.R_drewN | apply Kd.R_drew)); exact (Kd.R_mono (Kd.R_far (p := ⟨gb242, 3, none⟩) (Kd.R_far (p := ⟨gb242, 2, none⟩) (Kd.R_far (p := ⟨gb242, 1, none⟩) (Kd.R_far (p := ⟨gb242, 0, none⟩) (Kd.R_types HO_7.out BK242.out (by decide)) (fun _ hk => hk.2) (.int .i16 t237)) (fun _ hk => hk.2) (.int .i16 t238)) (fun _ hk => hk.2) (.int .i16 t239)) (fun _ hk => hk.2) (.int .i16 t240)) (fun _ h_ => h_.1))) hb); have n1_ := za.mk (Kd.R_below (by (with_reducible repeat (first | apply Kd.R_alloc | apply Kd.R_drewN | apply Kd.R_drew)); exact (Kd.R_mono (Kd.R_far (p := ⟨gb242, 3, none⟩) (Kd.R_far (p := ⟨gb242, 2, none⟩) (Kd.R_far (p := ⟨gb242, 1, none⟩) (Kd.R_far (p := ⟨gb242, 0, none⟩) (Kd.R_types HO_154.out BK242.out (by decide)) (fun _ hk => hk.2) (.int .i16 t237)) (fun _ hk => hk.2) (.int .i16 t238)) (fun _ hk => hk.2) (.int .i16 t239)) (fun _ hk => hk.2) (.int .i16 t240)) (fun _ h_ => h_.1))) hb); have n2_ := za.mk (Kd.R_below (by (with_reducible repeat (first | apply Kd.R_alloc | apply Kd.R_drewN | apply Kd.R_drew)); exact (Kd.R_mono (Kd.R_far (p := ⟨gb242, 3, none⟩) (Kd.R_far (p := ⟨gb242, 2, none⟩) (Kd.R_far (p := ⟨gb242, 1, none⟩) (Kd.R_far (p := ⟨gb242, 0, none⟩) (Kd.R_types HO_155.out BK242.out (by decide)) (fun _ hk => hk.2) (.int .i16 t237)) (fun _ hk => hk.2) (.int .i16 t238)) (fun _ hk => hk.2) (.int .i16 t239)) (fun _ hk => hk.2) (.int .i16 t240)) (fun _ h_ => h_.1))) hb); have n3_ := za.mk (Kd.R_below (by (with_reducible repeat (first | apply Kd.R_alloc | apply Kd.R_drewN | apply Kd.R_drew)); exact (Kd.R_mono (Kd.R_far (p := ⟨gb242, 3, none⟩) (Kd.R_far (p := ⟨gb242, 2, none⟩) (Kd.R_far (p := ⟨gb242, 1, none⟩) (Kd.R_far (p := ⟨gb242, 0, none⟩) (Kd.R_types HO_156.out BK242.out (by decide)) (fun _ hk => hk.2) (.int .i16 t237)) (fun _ hk => hk.2) (.int .i16 t238)) (fun _ hk => hk.2) (.int .i16 t239)) (fun _ hk => hk.2) (.int .i16 t240)) (fun _ h_ => h_.1))) hb); have n4_ := za.mk (Kd.R_below (by (with_reducible repeat (first | apply Kd.R_alloc | apply Kd.R_drewN | apply Kd.R_drew)); exact (Kd.R_mono (Kd.R_far (p := ⟨gb242, 3, none⟩) (Kd.R_far (p := ⟨gb242, 2, none⟩) (Kd.R_far (p := ⟨gb242, 1, none⟩) (Kd.R_far (p := ⟨gb242, 0, none⟩) (Kd.R_types HO_157.out BK242.out (by decide)) (fun _ hk => hk.2) (.int .i16 t237)) (fun _ hk => hk.2) (.int .i16 t238)) (fun _ hk => hk.2) (.int .i16 t239)) (fun _ hk => hk.2) (.int .i16 t240)) (fun _ h_ => h_.1))) hb); have n5_ := za.mk (zca (g := gb209) (o := .cells #[.slice A0_0 l0_0.length c0_0, .int .i16 x210001_3, .int .i16 x210002_3, .int .i16 x210003_3, .int .i16 x210004_3, .bool x210005_3] 29 (0, 0)) (by (with_reducible repeat (first | refine ze ?_ _ | refine zf ?_ | refine zc ?_ _)); refine zm ?_ NB209_242.out _; (with_reducible repeat (first | refine ze ?_ _ | refine zf ?_ | refine zc ?_ _)); refine zm ?_ NB209_242.out _; (with_reducible repeat (first | refine ze ?_ _ | refine zf ?_ | refine zc ?_ _)); refine zm ?_ NB209_242.out _; (with_reducible repeat (first | refine ze ?_ _ | refine zf ?_ | refine zc ?_ _)); refine zm ?_ NB209_242.out _; (with_reducible repeat (first | refine ze ?_ _ | refine zf ?_ | refine zc ?_ _)); exact BK209.out) hb); have n6_ := za.mk (zdb BK220.out (by intro h_; (with_reducible repeat (first | refine ze ?_ _ | refine zf ?_ | refine zc ?_ _)); refine zka ?_ NB220_242.out _; (with_reducible repeat (first | refine ze ?_ _ | refine zf ?_ | refine zc ?_ _)); refine zka ?_ NB220_242.out _; (with_reducible repeat (first | refine ze ?_ _ | refine zf ?_ | refine zc ?_ _)); refine zka ?_ NB220_242.out _; (with_reducible repeat (first | refine ze ?_ _ | refine zf ?_ | refine zc ?_ _)); refine zka ?_ NB220_242.out _; (with_reducible repeat (first | refine ze ?_ _ | refine zf ?_ | refine zc ?_ _)); exact h_) hb); have n7_ := za.mk (zca (g := gb235) (o := .cells #[.int .i16 t231, .int .i16 t232, .int .i16 t233, .int .i16 t234] 27 (0, 0)) (by (with_reducible repeat (first | refine ze ?_ _ | refine zf ?_ | refine zc ?_ _)); refine zm ?_ NB235_242.out _; (with_reducible repeat (first | refine ze ?_ _ | refine zf ?_ | refine zc ?_ _)); refine zm ?_ NB235_242.out _; (with_reducible repeat (first | refine ze ?_ _ | refine zf ?_ | refine zc ?_ _)); refine zm ?_ NB235_242.out _; (with_reducible repeat (first | refine ze ?_ _ | refine zf ?_ | refine zc ?_ _)); refine zm ?_ NB235_242.out _; (with_reducible repeat (first | refine ze ?_ _ | refine zf ?_ | refine zc ?_ _)); exact BK235.out) hb); have n8_ := za.mk (zca (g := gb242) (o := .cells #[.int .i16 t237, .int .i16 t238, .int .i16 t239, .int .i16 t240] 27 (0, 0)) (by (with_reducible repeat (first | refine ze ?_ _ | refine zf ?_ | refine zc ?_ _)); refine zx (cs := #[.int .i16 t237, .int .i16 t238, .int .i16 t239, .int .i16 0]) ?_ 3 _ rfl; (with_reducible repeat (first | refine ze ?_ _ | refine zf ?_ | refine zc ?_ _)); refine zx (cs := #[.int .i16 t237, .int .i16 t238, .int .i16 0, .int .i16 0]) ?_ 2 _ rfl; (with_reducible repeat (first | refine ze ?_ _ | refine zf ?_ | refine zc ?_ _)); refine zx (cs := #[.int .i16 t237, .int .i16 0, .int .i16 0, .int .i16 0]) ?_ 1 _ rfl; (with_reducible repeat (first | refine ze ?_ _ | refine zf ?_ | refine zc ?_ _)); refine zx (cs := #[.int .i16 0, .int .i16 0, .int .i16 0, .int .i16 0]) ?_ 0 _ rfl; (with_reducible repeat (first | refine ze ?_ _ | refine zf ?_ | refine zc ?_ _)); exact BK242.out) hb); have n9_ := za.mk (zh sB hb); clear HO_7; clear HO_154; clear HO_155; clear HO_156; clear HO_157; clear BK209; clear BK220; clear BK235; clear BK242; clear HB; have HO_7 := n0_; have HO_154 := n1_; have HO_155 := n2_; have HO_156 := n3_; have HO_157 := n4_; have BK209 := n5_; have BK220 := n6_; have BK235 := n7_; have BK242 := n8_; have HB := n9_; clear n0_ n1_ n2_ n3_ n4_ n5_ n6_ n7_ n8_ n9_; try clear hb; have hnb100 := NB220_209.out; have hnc100 := NB209_220.out; have hnb101 := NB220_235.out; have hnc101 := NB235_220.out; have hcz102_0 := zic BK220.out; have hcz102_1 := zuc BK220.out; have hcz102_2 := zmc BK220.out; have hcz102_3 := zkc BK220.out; have hfz102_0 := zg BK220.out 0; have hfz102_3 := zg BK220.out 3; have p244 : 0 ≤ (t243 : Int) := of_decide_eq_true (by first | (with_reducible assumption) | assumption); have q244 : t243 < (x154_3.length : Int) := of_decide_eq_true (by first | (with_reducible assumption) | assumption); obtain ⟨ad244, e244, hx244_0⟩ := Kd.at_int (Kd.R_reads' HO_154.out).2.2 t243 p244 q244; obtain rfl : (⟨go29, 0, none⟩ : Addr) = ad244 := (by injection e244); (first | simp only [zsc] at hx244_0 | simp only [add_at] at hx244_0 | simp only [Addr.add, Nat.zero_add] at hx244_0 | skip); replace p244 := eq_true p244; replace q244 := eq_true q244))
          have n0_ := za.mk (Kd.R_drew HO_7.out)
          have n1_ := za.mk (Kd.R_drew HO_154.out)
          have n2_ := za.mk (Kd.R_drew HO_155.out)
          have n3_ := za.mk (Kd.R_drew HO_156.out)
          have n4_ := za.mk (Kd.R_drew HO_157.out)
          have n5_ := za.mk (zf BK209.out)
          have n6_ := za.mk (zf BK220.out)
          have n7_ := za.mk (zf BK235.out)
          have n8_ := za.mk (zf BK242.out)
          have n9_ := za.mk (zv HB.out)
          clear HO_7
          clear HO_154
          clear HO_155
          clear HO_156
          clear HO_157
          clear BK209
          clear BK220
          clear BK235
          clear BK242
          clear HB
          have HO_7 := n0_
          have HO_154 := n1_
          have HO_155 := n2_
          have HO_156 := n3_
          have HO_157 := n4_
          have BK209 := n5_
          have BK220 := n6_
          have BK235 := n7_
          have BK242 := n8_
          have HB := n9_
          clear n0_ n1_ n2_ n3_ n4_ n5_ n6_ n7_ n8_ n9_
          have p245 : 0 ≤ ((rd x157_2 x8_2) : Int) := of_decide_eq_true (by first | (with_reducible assumption) | assumption)
          have q245 : (rd x157_2 x8_2) < (x154_3.length : Int) := of_decide_eq_true (by first | (with_reducible assumption) | assumption)
          obtain ⟨ad245, e245, hx245_0⟩ := Kd.at_int (Kd.R_reads' HO_154.out).2.2 (rd x157_2 x8_2) p245 q245
          obtain rfl : (⟨go29, 0, none⟩ : Addr) = ad245 := (by injection e245)
          (first | simp only [zsc] at hx245_0 | simp only [add_at] at hx245_0 | simp only [Addr.add, Nat.zero_add] at hx245_0 | skip)
          replace p245 := eq_true p245
          replace q245 := eq_true q245
          have p80 : 0 ≤ (t243 : Int) := of_decide_eq_true (by first | (with_reducible assumption) | assumption)
          have q80 : (t243 : Int) < ((x154_3.length : Int) : Int) := of_decide_eq_true (by first | (with_reducible assumption) | assumption)
          obtain ⟨hx80_0, hf80_0⟩ := Kd.R_celln 0 HO_154.out (t243 : Int) p80 q80
          replace p80 := eq_true p80
          replace q80 := eq_true q80
          have HP104 := Kd.R_putn HO_154.out (t243 : Int) (IntKind.i16.wrap ((rd x154_3 (rd x157_2 x8_2)) + 1))
          rw [← Ny246.out] at HP104
          have HQ104 := za.mk HP104
          clear HP104
          refine zlc (n := 15) (S := fun w' => w'.cell? ⟨gb220, 0, none⟩ = some (.slice (some ⟨go29, 0, none⟩) x154_3.length co29) ∧ w'.cell? ⟨go29, ((rd x157_2 x8_2)).toNat, none⟩ = some (.int .i16 (rd x154_3 (rd x157_2 x8_2)))) (ds := [14]) #[false, false, false, false, false, false, false, false, false, false, false, false, false, false, false] (by kernel_rfl) rfl rfl ⟨zic BK220.out, hx245_0⟩ (fun hHeld => ?_); refine zpb spec_l02Find.tab23 spec_l02Find.bits23 (fun HT_ HW_ => ?_)
          generalize w99.drew = w103 at HO_7 HO_154 HO_155 HO_156 HO_157 BK209 BK220 BK235 BK242 HB HQ104 hf80_0 hx245_0 hx80_0 hHeld ⊢
          refine zfa (i := 0) (N := some 111) (v := ?_) (a' := ?_) #[true, false, false, false, false, false, false, false, false, false, false, false, false, false, false] rfl rfl (zda HT_.out (by kernel_rfl)) (fun _ _ _ h => h) (Or.inl ⟨by rfl, ?_⟩) ?_ ?_
          rotate_left
          ·intro w'
           go_simp
           with_reducible rfl
          rotate_left
          ·simp only [Act.put, List.setIfInBounds_toArray, List.set_cons_zero, List.set_cons_succ, zz, zy]
           rfl
          refine zfa (i := 1) (N := some 112) (v := ?_) (a' := ?_) #[true, true, false, false, false, false, false, false, false, false, false, false, false, false, false] rfl rfl (zda HT_.out (by kernel_rfl)) (fun _ _ _ h => h) (Or.inl ⟨by rfl, ?_⟩) ?_ ?_
          rotate_left
          ·intro w'
           go_simp
           with_reducible rfl
          rotate_left
          ·simp only [Act.put, List.setIfInBounds_toArray, List.set_cons_zero, List.set_cons_succ, zz, zy]
           rfl
          refine zfa (i := 2) (N := some 113) (v := ?_) (a' := ?_) #[true, true, true, false, false, false, false, false, false, false, false, false, false, false, false] rfl rfl (zda HT_.out (by kernel_rfl)) (fun _ _ _ h => h) (Or.inl ⟨by rfl, ?_⟩) ?_ ?_
          rotate_left
          ·intro w'
           go_simp
           with_reducible rfl
          rotate_left
          ·simp only [Act.put, List.setIfInBounds_toArray, List.set_cons_zero, List.set_cons_succ, zz, zy]
           rfl
          refine zfa (i := 4) (N := some 115) (v := ?_) (a' := ?_) #[true, true, true, false, true, false, false, false, false, false, false, false, false, false, false] rfl rfl (zda HT_.out (by kernel_rfl)) (fun _ _ _ h => h) (Or.inl ⟨by rfl, ?_⟩) ?_ ?_
          rotate_left
          ·intro w'
           go_simp
           with_reducible rfl
          rotate_left
          ·simp only [Act.put, List.setIfInBounds_toArray, List.set_cons_zero, List.set_cons_succ, zz, zy]
           rfl
          refine zfa (i := 5) (N := some 116) (v := ?_) (a' := ?_) #[true, true, true, false, true, true, false, false, false, false, false, false, false, false, false] rfl rfl (zda HT_.out (by kernel_rfl)) (fun _ _ _ h => h) (Or.inl ⟨by rfl, ?_⟩) ?_ ?_
          rotate_left
          ·intro w'
           go_simp
           with_reducible rfl
          rotate_left
          ·simp only [Act.put, List.setIfInBounds_toArray, List.set_cons_zero, List.set_cons_succ, zz, zy]
           rfl
          refine zfa (i := 6) (N := some 117) (v := ?_) (a' := ?_) #[true, true, true, false, true, true, true, false, false, false, false, false, false, false, false] rfl rfl (zda HT_.out (by kernel_rfl)) (fun _ _ _ h => h) (Or.inl ⟨by rfl, ?_⟩) ?_ ?_
          rotate_left
          ·intro w'
           go_simp
           with_reducible rfl
          rotate_left
          ·simp only [Act.put, List.setIfInBounds_toArray, List.set_cons_zero, List.set_cons_succ, zz, zy]
           rfl
          refine zfa (i := 7) (N := some 118) (v := ?_) (a' := ?_) #[true, true, true, false, true, true, true, true, false, false, false, false, false, false, false] rfl rfl (zda HT_.out (by kernel_rfl)) (fun _ _ _ h => h) (Or.inl ⟨by rfl, ?_⟩) ?_ ?_
          rotate_left
          ·intro w'
           go_simp
           with_reducible rfl
          rotate_left
          ·simp only [Act.put, List.setIfInBounds_toArray, List.set_cons_zero, List.set_cons_succ, zz, zy]
           rfl
          refine zfa (i := 9) (N := some 120) (v := ?_) (a' := ?_) #[true, true, true, false, true, true, true, true, false, true, false, false, false, false, false] rfl rfl (zda HT_.out (by kernel_rfl)) (fun _ _ _ h => h) (Or.inl ⟨by rfl, ?_⟩) ?_ ?_
          rotate_left
          ·intro w'
           go_simp
           with_reducible rfl
          rotate_left
          ·simp only [Act.put, List.setIfInBounds_toArray, List.set_cons_zero, List.set_cons_succ, zz, zy]
           rfl
          refine take_ (i := 3) (N := some 114) (v := ?_) (a' := ?_) #[true, true, true, true, true, true, true, true, false, true, false, false, false, false, false] rfl rfl (zwa HT_.out HW_.out (by kernel_rfl)) (fun _ _ _ h => h) (Or.inl ⟨by rfl, ?_⟩) hHeld ?_ ?_
          rotate_left
          ·rintro w' ⟨s0, s1⟩
           go_simp
           with_reducible rfl
          rotate_left
          ·simp only [Act.put, List.setIfInBounds_toArray, List.set_cons_zero, List.set_cons_succ, zz, zy]
           rfl
          refine take_ (i := 8) (N := some 119) (v := ?_) (a' := ?_) #[true, true, true, true, true, true, true, true, true, true, false, false, false, false, false] rfl rfl (zwa HT_.out HW_.out (by kernel_rfl)) (fun _ _ _ h => h) (Or.inl ⟨by rfl, ?_⟩) hHeld ?_ ?_
          rotate_left
          ·rintro w' ⟨s0, s1⟩
           go_simp
           with_reducible rfl
          rotate_left
          ·simp only [Act.put, List.setIfInBounds_toArray, List.set_cons_zero, List.set_cons_succ, zz, zy]
           rfl
          refine zfa (i := 10) (N := some 121) (v := ?_) (a' := ?_) #[true, true, true, true, true, true, true, true, true, true, true, false, false, false, false] rfl rfl (zda HT_.out (by kernel_rfl)) (fun _ _ _ h => h) (Or.inl ⟨by rfl, ?_⟩) ?_ ?_
          rotate_left
          ·intro w'
           go_simp
           with_reducible rfl
          rotate_left
          ·simp only [Act.put, List.setIfInBounds_toArray, List.set_cons_zero, List.set_cons_succ, zz, zy]
           rfl
          refine take_ (i := 11) (N := some 122) (v := ?_) (a' := ?_) #[true, true, true, true, true, true, true, true, true, true, true, true, false, false, false] rfl rfl (zwa HT_.out HW_.out (by kernel_rfl)) (fun _ _ _ h => h) (Or.inl ⟨by rfl, ?_⟩) hHeld ?_ ?_
          rotate_left
          ·rintro w' ⟨s0, s1⟩
           go_simp
           with_reducible rfl
          rotate_left
          ·simp only [Act.put, List.setIfInBounds_toArray, List.set_cons_zero, List.set_cons_succ, zz, zy]
           rfl
          refine zfa (i := 12) (N := some 123) (v := ?_) (a' := ?_) #[true, true, true, true, true, true, true, true, true, true, true, true, true, false, false] rfl rfl (zda HT_.out (by kernel_rfl)) (fun _ _ _ h => h) (Or.inl ⟨by rfl, ?_⟩) ?_ ?_
          rotate_left
          ·intro w'
           go_simp
           with_reducible rfl
          rotate_left
          ·simp only [Act.put, List.setIfInBounds_toArray, List.set_cons_zero, List.set_cons_succ, zz, zy]
           rfl
          refine zfa (i := 13) (N := some 124) (v := ?_) (a' := ?_) #[true, true, true, true, true, true, true, true, true, true, true, true, true, true, false] rfl rfl (zda HT_.out (by kernel_rfl)) (fun _ _ _ h => h) (Or.inl ⟨by rfl, ?_⟩) ?_ ?_
          rotate_left
          ·intro w'
           go_simp
           with_reducible rfl
          rotate_left
          ·simp only [Act.put, List.setIfInBounds_toArray, List.set_cons_zero, List.set_cons_succ, zz, zy]
           rfl
          refine last_ (i := 14) (N := none) #[true, true, true, true, true, true, true, true, true, true, true, true, true, true, true] rfl rfl (ztb HT_.out (by kernel_rfl)) (by decide) (fun K hK => ?_)
          refine skip_ (w1 := ?_) (by rfl) rfl ?_ ?_
          rotate_left
          ·go_simp
           rfl
          refine hK.out _ _ ?_
          clear hK K
          refine zae (zfc HT_.out (by kernel_rfl)) ?_
          obtain ⟨cl29n, GG29n⟩ := Kd.R_typed HO_154.out go29 rfl
          have GG29 := za.mk GG29n
          have n0_ : za (Kd.R k80 80 (w103.setCell ⟨go29, (t243 : Int).toNat, none⟩ (.int .i16 (IntKind.i16.wrap ((rd x154_3 (rd x157_2 x8_2)) + 1)))) w.heap.size (fun k_ => some k_ ≠ (v218 : Value).ownBlock) (.slice (some ad236) x7_3.length co61) x7_3) := ⟨by (with_reducible repeat (first | apply Kd.R_alloc | apply Kd.R_drewN | apply Kd.R_drew)); exact Kd.R_mono (Kd.R_far (p := ⟨go29, (t243 : Int).toNat, none⟩) (Kd.R_types HO_7.out GG29.out (by decide)) (fun _ hk => hk.2) (.int .i16 (IntKind.i16.wrap ((rd x154_3 (rd x157_2 x8_2)) + 1)))) (fun _ hk => hk.1)⟩
          have n1_ : za (Kd.R (Kd.int .i16) 25 (w103.setCell ⟨go29, (t243 : Int).toNat, none⟩ (.int .i16 (IntKind.i16.wrap ((rd x154_3 (rd x157_2 x8_2)) + 1)))) w.heap.size (fun _ => True) (.slice (some ⟨go29, 0, none⟩) x154_3.length co29) y246) := ⟨uR HQ104⟩
          have n2_ : za (Kd.R (Kd.int .i64) 2 (w103.setCell ⟨go29, (t243 : Int).toNat, none⟩ (.int .i16 (IntKind.i16.wrap ((rd x154_3 (rd x157_2 x8_2)) + 1)))) w.heap.size (fun k_ => some k_ ≠ (u157 : Value).ownBlock) v215 x155_3) := ⟨by (with_reducible repeat (first | apply Kd.R_alloc | apply Kd.R_drewN | apply Kd.R_drew)); exact Kd.R_mono (Kd.R_far (p := ⟨go29, (t243 : Int).toNat, none⟩) (Kd.R_types HO_155.out GG29.out (by decide)) (fun _ hk => hk.2) (.int .i16 (IntKind.i16.wrap ((rd x154_3 (rd x157_2 x8_2)) + 1)))) (fun _ hk => hk.1)⟩
          have n3_ : za (Kd.R k80 80 (w103.setCell ⟨go29, (t243 : Int).toNat, none⟩ (.int .i16 (IntKind.i16.wrap ((rd x154_3 (rd x157_2 x8_2)) + 1)))) w.heap.size (fun k_ => some k_ ≠ (.slice (some ad236) x7_3.length co61 : Value).ownBlock) v218 x156_3) := ⟨by (with_reducible repeat (first | apply Kd.R_alloc | apply Kd.R_drewN | apply Kd.R_drew)); exact Kd.R_mono (Kd.R_far (p := ⟨go29, (t243 : Int).toNat, none⟩) (Kd.R_types HO_156.out GG29.out (by decide)) (fun _ hk => hk.2) (.int .i16 (IntKind.i16.wrap ((rd x154_3 (rd x157_2 x8_2)) + 1)))) (fun _ hk => hk.1)⟩
          have n4_ : za (Kd.R (Kd.int .i64) 2 (w103.setCell ⟨go29, (t243 : Int).toNat, none⟩ (.int .i16 (IntKind.i16.wrap ((rd x154_3 (rd x157_2 x8_2)) + 1)))) w.heap.size (fun k_ => some k_ ≠ (v215 : Value).ownBlock) u157 x157_3) := ⟨by (with_reducible repeat (first | apply Kd.R_alloc | apply Kd.R_drewN | apply Kd.R_drew)); exact Kd.R_mono (Kd.R_far (p := ⟨go29, (t243 : Int).toNat, none⟩) (Kd.R_types HO_157.out GG29.out (by decide)) (fun _ hk => hk.2) (.int .i16 (IntKind.i16.wrap ((rd x154_3 (rd x157_2 x8_2)) + 1)))) (fun _ hk => hk.1)⟩
          have n5_ : za ((w103.setCell ⟨go29, (t243 : Int).toNat, none⟩ (.int .i16 (IntKind.i16.wrap ((rd x154_3 (rd x157_2 x8_2)) + 1)))).heap[gb209]? = some (.cells #[.slice A0_0 l0_0.length c0_0, .int .i16 x210001_3, .int .i16 x210002_3, .int .i16 x210003_3, .int .i16 x210004_3, .bool x210005_3] 29 (0, 0))) := ⟨by (with_reducible repeat (first | refine ze ?_ _ | refine zf ?_ | refine zc ?_ _)); refine zm ?_ (by have h_ := Kd.R_ne HO_154.out BK209.out (by decide); intro e_; exact h_ (by rw [e_]; rfl)) _; (with_reducible repeat (first | refine ze ?_ _ | refine zf ?_ | refine zc ?_ _)); exact BK209.out⟩
          have n6_ : za ((w103.setCell ⟨go29, (t243 : Int).toNat, none⟩ (.int .i16 (IntKind.i16.wrap ((rd x154_3 (rd x157_2 x8_2)) + 1)))).heap[gb220]? = some (.cells #[.slice (some ⟨go29, 0, none⟩) x154_3.length co29, v215, v218, u157] 87 (0, 0))) := ⟨by (with_reducible repeat (first | refine ze ?_ _ | refine zf ?_ | refine zc ?_ _)); refine zm ?_ (by have h_ := Kd.R_ne HO_154.out BK220.out (by decide); intro e_; exact h_ (by rw [e_]; rfl)) _; (with_reducible repeat (first | refine ze ?_ _ | refine zf ?_ | refine zc ?_ _)); exact BK220.out⟩
          have n7_ : za ((w103.setCell ⟨go29, (t243 : Int).toNat, none⟩ (.int .i16 (IntKind.i16.wrap ((rd x154_3 (rd x157_2 x8_2)) + 1)))).heap[gb235]? = some (.cells #[.int .i16 t231, .int .i16 t232, .int .i16 t233, .int .i16 t234] 27 (0, 0))) := ⟨by (with_reducible repeat (first | refine ze ?_ _ | refine zf ?_ | refine zc ?_ _)); refine zm ?_ (by have h_ := Kd.R_ne HO_154.out BK235.out (by decide); intro e_; exact h_ (by rw [e_]; rfl)) _; (with_reducible repeat (first | refine ze ?_ _ | refine zf ?_ | refine zc ?_ _)); exact BK235.out⟩
          have n8_ : za ((w103.setCell ⟨go29, (t243 : Int).toNat, none⟩ (.int .i16 (IntKind.i16.wrap ((rd x154_3 (rd x157_2 x8_2)) + 1)))).heap[gb242]? = some (.cells #[.int .i16 t237, .int .i16 t238, .int .i16 t239, .int .i16 t240] 27 (0, 0))) := ⟨by (with_reducible repeat (first | refine ze ?_ _ | refine zf ?_ | refine zc ?_ _)); refine zm ?_ (by have h_ := Kd.R_ne HO_154.out BK242.out (by decide); intro e_; exact h_ (by rw [e_]; rfl)) _; (with_reducible repeat (first | refine ze ?_ _ | refine zf ?_ | refine zc ?_ _)); exact BK242.out⟩
          have n9_ : za (Below w.heap.size w (w103.setCell ⟨go29, (t243 : Int).toNat, none⟩ (.int .i16 (IntKind.i16.wrap ((rd x154_3 (rd x157_2 x8_2)) + 1))))) := ⟨by repeat (first | (with_reducible first | exact HB.out | apply zw | apply zo | apply zv | refine zt ?_ GB29.out | refine zt ?_ GE220.out | refine zt ?_ GE235.out | refine zt ?_ GE242.out) | exact HB.out)⟩
          (try clear HO_7)
          (try clear HO_154)
          (try clear HO_155)
          (try clear HO_156)
          (try clear HO_157)
          (try clear BK209)
          (try clear BK220)
          (try clear BK235)
          (try clear BK242)
          (try clear HB)
          generalize (w103.setCell ⟨go29, (t243 : Int).toNat, none⟩ (.int .i16 (IntKind.i16.wrap ((rd x154_3 (rd x157_2 x8_2)) + 1)))) = w105 at n0_ n1_ n2_ n3_ n4_ n5_ n6_ n7_ n8_ n9_ ⊢
          have HO_7 := n0_
          have HO_154 := n1_
          have HO_155 := n2_
          have HO_156 := n3_
          have HO_157 := n4_
          have BK209 := n5_
          have BK220 := n6_
          have BK235 := n7_
          have BK242 := n8_
          have HB := n9_
          clear n0_ n1_ n2_ n3_ n4_ n5_ n6_ n7_ n8_ n9_
          have hcz106_0 := zic BK220.out
          have hcz106_1 := zuc BK220.out
          have hcz106_2 := zmc BK220.out
          have hcz106_3 := zkc BK220.out
          have hfz106_0 := zg BK220.out 0
          have hfz106_3 := zg BK220.out 3
          have p82 : 0 ≤ (t243 : Int) := of_decide_eq_true (by first | (with_reducible assumption) | assumption)
          have q82 : (t243 : Int) < ((x155_3.length : Int) : Int) := of_decide_eq_true (by first | (with_reducible assumption) | assumption)
          obtain ⟨go82, co82, eo82, gb82, gl82, cl82, HG82⟩ := Kd.R_form HO_155.out (by omega)
          (first | cases eo82 | (injection eo82 with ea_ en_ ec_; (first | subst ea_ | (injection ea_ with ea_; subst ea_)); subst ec_; clear en_))
          have GB82 := za.mk gb82
          have GG82 := za.mk HG82
          clear gb82 gl82 HG82
          obtain ⟨hx82_0, hf82_0⟩ := Kd.R_celln 0 HO_155.out (t243 : Int) p82 q82
          replace p82 := eq_true p82
          replace q82 := eq_true q82
          obtain ⟨hy107_, hz107_⟩ := Kd.R_celln 0 HO_155.out (t243 : Int) (of_decide_eq_true (by first | (with_reducible assumption) | assumption)) (of_decide_eq_true (by first | (with_reducible assumption) | assumption))
          have HP107 := Kd.R_putg HO_155.out (t243 : Int) (rd x157_2 x8_2)
          try go_wp2_with (first | ((with_reducible refine zza (t := 2) (p := 131) rfl ?_); refine zya (t := 2) (p := 131) (v := ?vo_w108) (w1 := (w105.setCell ⟨go82, (t243 : Int).toNat, none⟩ (.int .i64 (rd x157_2 x8_2)))) ?hg ?ho ?hn ?hr ?_; (case ho => rfl); (case hg => rfl); (case hn => rfl); (case hr => first | (go_simp; done) | (go_simp; rfl)); intro w108 hw; have hg : w105.grownBy w108 (some go82) := (by rw [hw]; exact HP107.2); have hp_ : Kd.R (Kd.int .i64) 2 w108 w.heap.size (fun k_ => some k_ ≠ (u157 : Value).ownBlock) (.slice (some ⟨go82, 0, none⟩) x155_3.length co82) y247 := (by rw [hw, Ny247.out]; exact HP107.1); clear HP107; have n0_ := za.mk (Kd.R_over' (v := (.slice (some ⟨go82, 0, none⟩) x155_3.length co82)) (uR HO_7) (Kd.R_typed HO_155.out) (by decide) hg); have n1_ := za.mk (Kd.R_over' (v := (.slice (some ⟨go82, 0, none⟩) x155_3.length co82)) (uR HO_154) (Kd.R_typed HO_155.out) (by decide) hg); have n2_ := za.mk hp_; have n3_ := za.mk (Kd.R_over' (v := (.slice (some ⟨go82, 0, none⟩) x155_3.length co82)) (uR HO_156) (Kd.R_typed HO_155.out) (by decide) hg); have n4_ := za.mk (Kd.R_after (v := (.slice (some ⟨go82, 0, none⟩) x155_3.length co82)) (v1 := (.slice (some ⟨go82, 0, none⟩) x155_3.length co82)) (ok := (fun _ => True)) (by (with_reducible repeat (first | apply Kd.R_alloc | apply Kd.R_drewN | apply Kd.R_drew)); exact Kd.R_mono HO_157.out (fun _ hk => ⟨trivial, hk⟩)) hg (.inl rfl)); have n5_ := za.mk (zga (g := gb209) (o := .cells #[.slice A0_0 l0_0.length c0_0, .int .i16 x210001_3, .int .i16 x210002_3, .int .i16 x210003_3, .int .i16 x210004_3, .bool x210005_3] 29 (0, 0)) (uK BK209) hg (Kd.R_ne HO_155.out BK209.out (by decide))); have n6_ := za.mk (zdc BK220.out (by intro h_; (with_reducible repeat (first | refine ze ?_ _ | refine zf ?_ | refine zc ?_ _)); exact h_) hg (Kd.R_ne HO_155.out BK220.out (by decide))); have n7_ := za.mk (zga (g := gb235) (o := .cells #[.int .i16 t231, .int .i16 t232, .int .i16 t233, .int .i16 t234] 27 (0, 0)) (uK BK235) hg (Kd.R_ne HO_155.out BK235.out (by decide))); have n8_ := za.mk (zga (g := gb242) (o := .cells #[.int .i16 t237, .int .i16 t238, .int .i16 t239, .int .i16 t240] 27 (0, 0)) (uK BK242) hg (Kd.R_ne HO_155.out BK242.out (by decide))); have n9_ := za.mk ((by rw [hw]; exact zt (HB.out) GB82.out : Below w.heap.size w w108)); clear HO_7; clear HO_154; clear HO_155; clear HO_156; clear HO_157; clear BK209; clear BK220; clear BK235; clear BK242; clear HB; have HO_7 := n0_; have HO_154 := n1_; have HO_155 := n2_; have HO_156 := n3_; have HO_157 := n4_; have BK209 := n5_; have BK220 := n6_; have BK235 := n7_; have BK242 := n8_; have HB := n9_; clear n0_ n1_ n2_ n3_ n4_ n5_ n6_ n7_ n8_ n9_; clear hg hw hp_))
          have n0_ := za.mk (Kd.R_drew HO_7.out)
          have n1_ := za.mk (Kd.R_drew HO_154.out)
          have n2_ := za.mk (Kd.R_drew HO_155.out)
          have n3_ := za.mk (Kd.R_drew HO_156.out)
          have n4_ := za.mk (Kd.R_drew HO_157.out)
          have n5_ := za.mk (zf BK209.out)
          have n6_ := za.mk (zf BK220.out)
          have n7_ := za.mk (zf BK235.out)
          have n8_ := za.mk (zf BK242.out)
          have n9_ := za.mk (zv HB.out)
          clear HO_7
          clear HO_154
          clear HO_155
          clear HO_156
          clear HO_157
          clear BK209
          clear BK220
          clear BK235
          clear BK242
          clear HB
          have HO_7 := n0_
          have HO_154 := n1_
          have HO_155 := n2_
          have HO_156 := n3_
          have HO_157 := n4_
          have BK209 := n5_
          have BK220 := n6_
          have BK235 := n7_
          have BK242 := n8_
          have HB := n9_
          clear n0_ n1_ n2_ n3_ n4_ n5_ n6_ n7_ n8_ n9_
          have p248 : 0 ≤ (x11_3 : Int) := of_decide_eq_true (by first | (with_reducible assumption) | assumption)
          have q248 : x11_3 < (x7_3.length : Int) := of_decide_eq_true (by first | (with_reducible assumption) | assumption)
          obtain ⟨ad248, e248, hx248_0, hx248_1, hx248_2⟩ := at_T80 (Kd.R_reads' HO_7.out).2.2 x11_3 p248 q248
          obtain rfl : ad236 = ad248 := (by injection e248)
          replace p248 := eq_true p248
          replace q248 := eq_true q248
          have p84 : 0 ≤ (t243 : Int) := of_decide_eq_true (by first | (with_reducible assumption) | assumption)
          have q84 : (t243 : Int) < ((x156_3.length : Int) : Int) := of_decide_eq_true (by first | (with_reducible assumption) | assumption)
          obtain ⟨go84, co84, eo84, gb84, gl84, cl84, HG84⟩ := Kd.R_form HO_156.out (by omega)
          (first | cases eo84 | (injection eo84 with ea_ en_ ec_; (first | subst ea_ | (injection ea_ with ea_; subst ea_)); subst ec_; clear en_))
          have GB84 := za.mk gb84
          have GG84 := za.mk HG84
          clear gb84 gl84 HG84
          obtain ⟨ce84, hcl84, hM84, hcc84, hfr84⟩ := Kd.R_elem HO_156.out z80 (t243 : Int) p84 q84
          obtain rfl := zle hM84
          have hx84_0 : World.cell? _ ⟨go84, (t243 : Int).toNat * 3, none⟩ = some (.int .i8 ((zi x156_3 t243).f0)) := hcc84 0 _ rfl
          have hx84_1 : World.cell? _ ⟨go84, (t243 : Int).toNat * 3 + 1, none⟩ = some (.int .i8 ((zi x156_3 t243).f1)) := hcc84 1 _ rfl
          have hx84_2 : World.cell? _ ⟨go84, (t243 : Int).toNat * 3 + 2, none⟩ = some (.int .i8 ((zi x156_3 t243).f2)) := hcc84 2 _ rfl
          have hf84_0 : World.frozen? _ ⟨go84, (t243 : Int).toNat * 3, none⟩ = false := hfr84 0
          have hf84_1 : World.frozen? _ ⟨go84, (t243 : Int).toNat * 3 + 1, none⟩ = false := hfr84 1
          have hf84_2 : World.frozen? _ ⟨go84, (t243 : Int).toNat * 3 + 2, none⟩ = false := hfr84 2
          clear hcl84 hcc84 hfr84 hM84
          replace p84 := eq_true p84
          replace q84 := eq_true q84
          obtain ⟨ce110, hcl110, hM110, hcc110, hfr110⟩ := Kd.R_elem HO_156.out z80 (t243 : Int) (of_decide_eq_true (by first | (with_reducible assumption) | assumption)) (by have h_ : (t243 : Int) < ((x156_3.length : Int) : Int) := of_decide_eq_true (by first | (with_reducible assumption) | assumption); first | exact h_ | (have e_ := (Kd.R_reads' HO_156.out).1; omega) | simpa using h_)
          obtain rfl := zle hM110
          have HP110 := (Kd.R_seg HO_156.out (t243 : Int) (of_decide_eq_true (by first | (with_reducible assumption) | assumption)) (by have h_ : (t243 : Int) < ((x156_3.length : Int) : Int) := of_decide_eq_true (by first | (with_reducible assumption) | assumption); first | exact h_ | (have e_ := (Kd.R_reads' HO_156.out).1; omega) | simpa using h_) (seg := [.int .i8 ((zi x7_3 x11_3).f0), .int .i8 ((zi x7_3 x11_3).f1), .int .i8 ((zi x7_3 x11_3).f2)]) (j := 0) hcl110 hcc110 (show 3 ≤ 3 from by decide) (x' := (⟨(zi x7_3 x11_3).f0, (zi x7_3 x11_3).f1, (zi x7_3 x11_3).f2⟩ : S80)) (zhc _ _ _ (⟨(zi x7_3 x11_3).f0, (zi x7_3 x11_3).f1, (zi x7_3 x11_3).f2⟩ : S80) ) (fun _ hk => hk)).1
          rw [← Ny249.out] at HP110
          have HQ110 := za.mk HP110
          clear hcl110 hcc110 hfr110 hM110 HP110
          refine zlc (n := 11) (S := fun w' => w'.cell? ⟨gb220, 2, none⟩ = some (.slice (some ⟨go84, 0, none⟩) x156_3.length co84) ∧ w'.cell? (ad236.add ((x11_3).toNat * 3)) = some (.int .i8 ((zi x7_3 x11_3).f0)) ∧ w'.cell? ⟨(ad236.add ((x11_3).toNat * 3)).block, (ad236.add ((x11_3).toNat * 3)).off + 1, none⟩ = some (.int .i8 ((zi x7_3 x11_3).f1)) ∧ w'.cell? ⟨(ad236.add ((x11_3).toNat * 3)).block, (ad236.add ((x11_3).toNat * 3)).off + 2, none⟩ = some (.int .i8 ((zi x7_3 x11_3).f2))) (ds := [10]) #[false, false, false, false, false, false, false, false, false, false, false] (by kernel_rfl) rfl rfl ⟨zmc BK220.out, hx248_0, hx248_1, hx248_2⟩ (fun hHeld => ?_); refine zpb spec_l02Find.tab25 spec_l02Find.bits25 (fun HT_ HW_ => ?_)
          generalize w108.drew = w109 at HO_7 HO_154 HO_155 HO_156 HO_157 BK209 BK220 BK235 BK242 HB GG84 HQ110 hf84_0 hf84_1 hf84_2 hx248_0 hx248_1 hx248_2 hx84_0 hx84_1 hx84_2 hHeld ⊢
          refine zfa (i := 0) (N := some 132) (v := ?_) (a' := ?_) #[true, false, false, false, false, false, false, false, false, false, false] rfl rfl (zda HT_.out (by kernel_rfl)) (fun _ _ _ h => h) (Or.inl ⟨by rfl, ?_⟩) ?_ ?_
          rotate_left
          ·intro w'
           go_simp
           with_reducible rfl
          rotate_left
          ·simp only [Act.put, List.setIfInBounds_toArray, List.set_cons_zero, List.set_cons_succ, zz, zy]
           rfl
          refine zfa (i := 1) (N := some 133) (v := ?_) (a' := ?_) #[true, true, false, false, false, false, false, false, false, false, false] rfl rfl (zda HT_.out (by kernel_rfl)) (fun _ _ _ h => h) (Or.inl ⟨by rfl, ?_⟩) ?_ ?_
          rotate_left
          ·intro w'
           go_simp
           with_reducible rfl
          rotate_left
          ·simp only [Act.put, List.setIfInBounds_toArray, List.set_cons_zero, List.set_cons_succ, zz, zy]
           rfl
          refine zfa (i := 2) (N := some 134) (v := ?_) (a' := ?_) #[true, true, true, false, false, false, false, false, false, false, false] rfl rfl (zda HT_.out (by kernel_rfl)) (fun _ _ _ h => h) (Or.inl ⟨by rfl, ?_⟩) ?_ ?_
          rotate_left
          ·intro w'
           go_simp
           with_reducible rfl
          rotate_left
          ·simp only [Act.put, List.setIfInBounds_toArray, List.set_cons_zero, List.set_cons_succ, zz, zy]
           rfl
          refine zfa (i := 4) (N := some 136) (v := ?_) (a' := ?_) #[true, true, true, false, true, false, false, false, false, false, false] rfl rfl (zda HT_.out (by kernel_rfl)) (fun _ _ _ h => h) (Or.inl ⟨by rfl, ?_⟩) ?_ ?_
          rotate_left
          ·intro w'
           go_simp
           with_reducible rfl
          rotate_left
          ·simp only [Act.put, List.setIfInBounds_toArray, List.set_cons_zero, List.set_cons_succ, zz, zy]
           rfl
          refine zfa (i := 5) (N := some 137) (v := ?_) (a' := ?_) #[true, true, true, false, true, true, false, false, false, false, false] rfl rfl (zda HT_.out (by kernel_rfl)) (fun _ _ _ h => h) (Or.inl ⟨by rfl, ?_⟩) ?_ ?_
          rotate_left
          ·intro w'
           go_simp
           with_reducible rfl
          rotate_left
          ·simp only [Act.put, List.setIfInBounds_toArray, List.set_cons_zero, List.set_cons_succ, zz, zy]
           rfl
          refine zfa (i := 6) (N := some 138) (v := ?_) (a' := ?_) #[true, true, true, false, true, true, true, false, false, false, false] rfl rfl (zda HT_.out (by kernel_rfl)) (fun _ _ _ h => h) (Or.inl ⟨by rfl, ?_⟩) ?_ ?_
          rotate_left
          ·intro w'
           go_simp
           with_reducible rfl
          rotate_left
          ·simp only [Act.put, List.setIfInBounds_toArray, List.set_cons_zero, List.set_cons_succ, zz, zy]
           rfl
          refine zfa (i := 7) (N := some 139) (v := ?_) (a' := ?_) #[true, true, true, false, true, true, true, true, false, false, false] rfl rfl (zda HT_.out (by kernel_rfl)) (fun _ _ _ h => h) (Or.inl ⟨by rfl, ?_⟩) ?_ ?_
          rotate_left
          ·intro w'
           go_simp
           with_reducible rfl
          rotate_left
          ·simp only [Act.put, List.setIfInBounds_toArray, List.set_cons_zero, List.set_cons_succ, zz, zy]
           rfl
          refine take_ (i := 3) (N := some 135) (v := ?_) (a' := ?_) #[true, true, true, true, true, true, true, true, false, false, false] rfl rfl (zwa HT_.out HW_.out (by kernel_rfl)) (fun _ _ _ h => h) (Or.inl ⟨by rfl, ?_⟩) hHeld ?_ ?_
          rotate_left
          ·rintro w' ⟨s0, s1, s2, s3⟩
           go_simp
           with_reducible rfl
          rotate_left
          ·simp only [Act.put, List.setIfInBounds_toArray, List.set_cons_zero, List.set_cons_succ, zz, zy]
           rfl
          refine take_ (i := 8) (N := some 140) (v := ?_) (a' := ?_) #[true, true, true, true, true, true, true, true, true, false, false] rfl rfl (zwa HT_.out HW_.out (by kernel_rfl)) (fun _ _ _ h => h) (Or.inl ⟨by rfl, ?_⟩) hHeld ?_ ?_
          rotate_left
          ·rintro w' ⟨s0, s1, s2, s3⟩
           go_simp
           with_reducible rfl
          rotate_left
          ·simp only [Act.put, List.setIfInBounds_toArray, List.set_cons_zero, List.set_cons_succ, zz, zy]
           rfl
          refine zfa (i := 9) (N := some 141) (v := ?_) (a' := ?_) #[true, true, true, true, true, true, true, true, true, true, false] rfl rfl (zda HT_.out (by kernel_rfl)) (fun _ _ _ h => h) (Or.inl ⟨by rfl, ?_⟩) ?_ ?_
          rotate_left
          ·intro w'
           go_simp
           with_reducible rfl
          rotate_left
          ·simp only [Act.put, List.setIfInBounds_toArray, List.set_cons_zero, List.set_cons_succ, zz, zy]
           rfl
          refine last_ (i := 10) (N := none) #[true, true, true, true, true, true, true, true, true, true, true] rfl rfl (ztb HT_.out (by kernel_rfl)) (by decide) (fun K hK => ?_)
          refine skip_ (w1 := ?_) (by rfl) rfl ?_ ?_
          rotate_left
          ·go_simp
           rfl
          refine hK.out _ _ ?_
          clear hK K
          refine zae (zfc HT_.out (by kernel_rfl)) ?_
          have n0_ : za (Kd.R k80 80 (((w109.setCell ⟨go84, (t243 : Int).toNat * 3, none⟩ (.int .i8 ((zi x7_3 x11_3).f0))).setCell ⟨go84, (t243 : Int).toNat * 3 + 1, none⟩ (.int .i8 ((zi x7_3 x11_3).f1))).setCell ⟨go84, (t243 : Int).toNat * 3 + 2, none⟩ (.int .i8 ((zi x7_3 x11_3).f2))) w.heap.size (fun k_ => some k_ ≠ (.slice (some ⟨go84, 0, none⟩) x156_3.length co84 : Value).ownBlock) (.slice (some ad236) x7_3.length co61) x7_3) := ⟨by (with_reducible repeat (first | apply Kd.R_alloc | apply Kd.R_drewN | apply Kd.R_drew)); exact Kd.R_mono (Kd.R_far (p := ⟨go84, (t243 : Int).toNat * 3 + 2, none⟩) (Kd.R_far (p := ⟨go84, (t243 : Int).toNat * 3 + 1, none⟩) (Kd.R_far (p := ⟨go84, (t243 : Int).toNat * 3, none⟩) (Kd.R_mono HO_7.out (fun k_ hk => (⟨hk, fun e_ => hk (by rw [e_]; rfl)⟩ : _ ∧ k_ ≠ go84))) (fun _ hk => hk.2) (.int .i8 ((zi x7_3 x11_3).f0))) (fun _ hk => hk.2) (.int .i8 ((zi x7_3 x11_3).f1))) (fun _ hk => hk.2) (.int .i8 ((zi x7_3 x11_3).f2))) (fun _ hk => hk.1)⟩
          have n1_ : za (Kd.R (Kd.int .i16) 25 (((w109.setCell ⟨go84, (t243 : Int).toNat * 3, none⟩ (.int .i8 ((zi x7_3 x11_3).f0))).setCell ⟨go84, (t243 : Int).toNat * 3 + 1, none⟩ (.int .i8 ((zi x7_3 x11_3).f1))).setCell ⟨go84, (t243 : Int).toNat * 3 + 2, none⟩ (.int .i8 ((zi x7_3 x11_3).f2))) w.heap.size (fun _ => True) (.slice (some ⟨go29, 0, none⟩) x154_3.length co29) y246) := ⟨by (with_reducible repeat (first | apply Kd.R_alloc | apply Kd.R_drewN | apply Kd.R_drew)); exact Kd.R_mono (Kd.R_far (p := ⟨go84, (t243 : Int).toNat * 3 + 2, none⟩) (Kd.R_far (p := ⟨go84, (t243 : Int).toNat * 3 + 1, none⟩) (Kd.R_far (p := ⟨go84, (t243 : Int).toNat * 3, none⟩) (Kd.R_types HO_154.out GG84.out (by decide)) (fun _ hk => hk.2) (.int .i8 ((zi x7_3 x11_3).f0))) (fun _ hk => hk.2) (.int .i8 ((zi x7_3 x11_3).f1))) (fun _ hk => hk.2) (.int .i8 ((zi x7_3 x11_3).f2))) (fun _ hk => trivial)⟩
          have n2_ : za (Kd.R (Kd.int .i64) 2 (((w109.setCell ⟨go84, (t243 : Int).toNat * 3, none⟩ (.int .i8 ((zi x7_3 x11_3).f0))).setCell ⟨go84, (t243 : Int).toNat * 3 + 1, none⟩ (.int .i8 ((zi x7_3 x11_3).f1))).setCell ⟨go84, (t243 : Int).toNat * 3 + 2, none⟩ (.int .i8 ((zi x7_3 x11_3).f2))) w.heap.size (fun k_ => some k_ ≠ (u157 : Value).ownBlock) (.slice (some ⟨go82, 0, none⟩) x155_3.length co82) y247) := ⟨by (with_reducible repeat (first | apply Kd.R_alloc | apply Kd.R_drewN | apply Kd.R_drew)); exact Kd.R_mono (Kd.R_far (p := ⟨go84, (t243 : Int).toNat * 3 + 2, none⟩) (Kd.R_far (p := ⟨go84, (t243 : Int).toNat * 3 + 1, none⟩) (Kd.R_far (p := ⟨go84, (t243 : Int).toNat * 3, none⟩) (Kd.R_types HO_155.out GG84.out (by decide)) (fun _ hk => hk.2) (.int .i8 ((zi x7_3 x11_3).f0))) (fun _ hk => hk.2) (.int .i8 ((zi x7_3 x11_3).f1))) (fun _ hk => hk.2) (.int .i8 ((zi x7_3 x11_3).f2))) (fun _ hk => hk.1)⟩
          have n3_ : za (Kd.R k80 80 (((w109.setCell ⟨go84, (t243 : Int).toNat * 3, none⟩ (.int .i8 ((zi x7_3 x11_3).f0))).setCell ⟨go84, (t243 : Int).toNat * 3 + 1, none⟩ (.int .i8 ((zi x7_3 x11_3).f1))).setCell ⟨go84, (t243 : Int).toNat * 3 + 2, none⟩ (.int .i8 ((zi x7_3 x11_3).f2))) w.heap.size (fun k_ => some k_ ≠ (.slice (some ad236) x7_3.length co61 : Value).ownBlock) (.slice (some ⟨go84, 0, none⟩) x156_3.length co84) y249) := ⟨by (with_reducible repeat (first | apply Kd.R_alloc | apply Kd.R_drewN | apply Kd.R_drew)); exact HQ110.out⟩
          have n4_ : za (Kd.R (Kd.int .i64) 2 (((w109.setCell ⟨go84, (t243 : Int).toNat * 3, none⟩ (.int .i8 ((zi x7_3 x11_3).f0))).setCell ⟨go84, (t243 : Int).toNat * 3 + 1, none⟩ (.int .i8 ((zi x7_3 x11_3).f1))).setCell ⟨go84, (t243 : Int).toNat * 3 + 2, none⟩ (.int .i8 ((zi x7_3 x11_3).f2))) w.heap.size (fun k_ => some k_ ≠ (.slice (some ⟨go82, 0, none⟩) x155_3.length co82 : Value).ownBlock) u157 x157_3) := ⟨by (with_reducible repeat (first | apply Kd.R_alloc | apply Kd.R_drewN | apply Kd.R_drew)); exact Kd.R_mono (Kd.R_far (p := ⟨go84, (t243 : Int).toNat * 3 + 2, none⟩) (Kd.R_far (p := ⟨go84, (t243 : Int).toNat * 3 + 1, none⟩) (Kd.R_far (p := ⟨go84, (t243 : Int).toNat * 3, none⟩) (Kd.R_types HO_157.out GG84.out (by decide)) (fun _ hk => hk.2) (.int .i8 ((zi x7_3 x11_3).f0))) (fun _ hk => hk.2) (.int .i8 ((zi x7_3 x11_3).f1))) (fun _ hk => hk.2) (.int .i8 ((zi x7_3 x11_3).f2))) (fun _ hk => hk.1.2)⟩
          have n5_ : za ((((w109.setCell ⟨go84, (t243 : Int).toNat * 3, none⟩ (.int .i8 ((zi x7_3 x11_3).f0))).setCell ⟨go84, (t243 : Int).toNat * 3 + 1, none⟩ (.int .i8 ((zi x7_3 x11_3).f1))).setCell ⟨go84, (t243 : Int).toNat * 3 + 2, none⟩ (.int .i8 ((zi x7_3 x11_3).f2))).heap[gb209]? = some (.cells #[.slice A0_0 l0_0.length c0_0, .int .i16 x210001_3, .int .i16 x210002_3, .int .i16 x210003_3, .int .i16 x210004_3, .bool x210005_3] 29 (0, 0))) := ⟨by (with_reducible repeat (first | refine ze ?_ _ | refine zf ?_ | refine zc ?_ _)); refine zm ?_ (by have h_ := Kd.R_ne HO_156.out BK209.out (by decide); intro e_; exact h_ (by rw [e_]; rfl)) _; (with_reducible repeat (first | refine ze ?_ _ | refine zf ?_ | refine zc ?_ _)); refine zm ?_ (by have h_ := Kd.R_ne HO_156.out BK209.out (by decide); intro e_; exact h_ (by rw [e_]; rfl)) _; (with_reducible repeat (first | refine ze ?_ _ | refine zf ?_ | refine zc ?_ _)); refine zm ?_ (by have h_ := Kd.R_ne HO_156.out BK209.out (by decide); intro e_; exact h_ (by rw [e_]; rfl)) _; (with_reducible repeat (first | refine ze ?_ _ | refine zf ?_ | refine zc ?_ _)); exact BK209.out⟩
          have n6_ : za ((((w109.setCell ⟨go84, (t243 : Int).toNat * 3, none⟩ (.int .i8 ((zi x7_3 x11_3).f0))).setCell ⟨go84, (t243 : Int).toNat * 3 + 1, none⟩ (.int .i8 ((zi x7_3 x11_3).f1))).setCell ⟨go84, (t243 : Int).toNat * 3 + 2, none⟩ (.int .i8 ((zi x7_3 x11_3).f2))).heap[gb220]? = some (.cells #[.slice (some ⟨go29, 0, none⟩) x154_3.length co29, .slice (some ⟨go82, 0, none⟩) x155_3.length co82, .slice (some ⟨go84, 0, none⟩) x156_3.length co84, u157] 87 (0, 0))) := ⟨by (with_reducible repeat (first | refine ze ?_ _ | refine zf ?_ | refine zc ?_ _)); refine zm ?_ (by have h_ := Kd.R_ne HO_156.out BK220.out (by decide); intro e_; exact h_ (by rw [e_]; rfl)) _; (with_reducible repeat (first | refine ze ?_ _ | refine zf ?_ | refine zc ?_ _)); refine zm ?_ (by have h_ := Kd.R_ne HO_156.out BK220.out (by decide); intro e_; exact h_ (by rw [e_]; rfl)) _; (with_reducible repeat (first | refine ze ?_ _ | refine zf ?_ | refine zc ?_ _)); refine zm ?_ (by have h_ := Kd.R_ne HO_156.out BK220.out (by decide); intro e_; exact h_ (by rw [e_]; rfl)) _; (with_reducible repeat (first | refine ze ?_ _ | refine zf ?_ | refine zc ?_ _)); exact BK220.out⟩
          have n7_ : za ((((w109.setCell ⟨go84, (t243 : Int).toNat * 3, none⟩ (.int .i8 ((zi x7_3 x11_3).f0))).setCell ⟨go84, (t243 : Int).toNat * 3 + 1, none⟩ (.int .i8 ((zi x7_3 x11_3).f1))).setCell ⟨go84, (t243 : Int).toNat * 3 + 2, none⟩ (.int .i8 ((zi x7_3 x11_3).f2))).heap[gb235]? = some (.cells #[.int .i16 t231, .int .i16 t232, .int .i16 t233, .int .i16 t234] 27 (0, 0))) := ⟨by (with_reducible repeat (first | refine ze ?_ _ | refine zf ?_ | refine zc ?_ _)); refine zm ?_ (by have h_ := Kd.R_ne HO_156.out BK235.out (by decide); intro e_; exact h_ (by rw [e_]; rfl)) _; (with_reducible repeat (first | refine ze ?_ _ | refine zf ?_ | refine zc ?_ _)); refine zm ?_ (by have h_ := Kd.R_ne HO_156.out BK235.out (by decide); intro e_; exact h_ (by rw [e_]; rfl)) _; (with_reducible repeat (first | refine ze ?_ _ | refine zf ?_ | refine zc ?_ _)); refine zm ?_ (by have h_ := Kd.R_ne HO_156.out BK235.out (by decide); intro e_; exact h_ (by rw [e_]; rfl)) _; (with_reducible repeat (first | refine ze ?_ _ | refine zf ?_ | refine zc ?_ _)); exact BK235.out⟩
          have n8_ : za ((((w109.setCell ⟨go84, (t243 : Int).toNat * 3, none⟩ (.int .i8 ((zi x7_3 x11_3).f0))).setCell ⟨go84, (t243 : Int).toNat * 3 + 1, none⟩ (.int .i8 ((zi x7_3 x11_3).f1))).setCell ⟨go84, (t243 : Int).toNat * 3 + 2, none⟩ (.int .i8 ((zi x7_3 x11_3).f2))).heap[gb242]? = some (.cells #[.int .i16 t237, .int .i16 t238, .int .i16 t239, .int .i16 t240] 27 (0, 0))) := ⟨by (with_reducible repeat (first | refine ze ?_ _ | refine zf ?_ | refine zc ?_ _)); refine zm ?_ (by have h_ := Kd.R_ne HO_156.out BK242.out (by decide); intro e_; exact h_ (by rw [e_]; rfl)) _; (with_reducible repeat (first | refine ze ?_ _ | refine zf ?_ | refine zc ?_ _)); refine zm ?_ (by have h_ := Kd.R_ne HO_156.out BK242.out (by decide); intro e_; exact h_ (by rw [e_]; rfl)) _; (with_reducible repeat (first | refine ze ?_ _ | refine zf ?_ | refine zc ?_ _)); refine zm ?_ (by have h_ := Kd.R_ne HO_156.out BK242.out (by decide); intro e_; exact h_ (by rw [e_]; rfl)) _; (with_reducible repeat (first | refine ze ?_ _ | refine zf ?_ | refine zc ?_ _)); exact BK242.out⟩
          have n9_ : za (Below w.heap.size w (((w109.setCell ⟨go84, (t243 : Int).toNat * 3, none⟩ (.int .i8 ((zi x7_3 x11_3).f0))).setCell ⟨go84, (t243 : Int).toNat * 3 + 1, none⟩ (.int .i8 ((zi x7_3 x11_3).f1))).setCell ⟨go84, (t243 : Int).toNat * 3 + 2, none⟩ (.int .i8 ((zi x7_3 x11_3).f2)))) := ⟨by repeat (first | (with_reducible first | exact HB.out | apply zw | apply zo | apply zv | refine zt ?_ GB84.out | refine zt ?_ GB84.out | refine zt ?_ GB84.out | refine zt ?_ GE220.out | refine zt ?_ GE235.out | refine zt ?_ GE242.out) | exact HB.out)⟩
          (try clear HO_7)
          (try clear HO_154)
          (try clear HO_155)
          (try clear HO_156)
          (try clear HO_157)
          (try clear BK209)
          (try clear BK220)
          (try clear BK235)
          (try clear BK242)
          (try clear HB)
          generalize (((w109.setCell ⟨go84, (t243 : Int).toNat * 3, none⟩ (.int .i8 ((zi x7_3 x11_3).f0))).setCell ⟨go84, (t243 : Int).toNat * 3 + 1, none⟩ (.int .i8 ((zi x7_3 x11_3).f1))).setCell ⟨go84, (t243 : Int).toNat * 3 + 2, none⟩ (.int .i8 ((zi x7_3 x11_3).f2))) = w111 at n0_ n1_ n2_ n3_ n4_ n5_ n6_ n7_ n8_ n9_ ⊢
          have HO_7 := n0_
          have HO_154 := n1_
          have HO_155 := n2_
          have HO_156 := n3_
          have HO_157 := n4_
          have BK209 := n5_
          have BK220 := n6_
          have BK235 := n7_
          have BK242 := n8_
          have HB := n9_
          clear n0_ n1_ n2_ n3_ n4_ n5_ n6_ n7_ n8_ n9_
          have hcz112_0 := zic BK220.out
          have hcz112_1 := zuc BK220.out
          have hcz112_2 := zmc BK220.out
          have hcz112_3 := zkc BK220.out
          have hfz112_0 := zg BK220.out 0
          have hfz112_3 := zg BK220.out 3
          try go_wp2_with (first | ((with_reducible refine zbb (b := .append) (xs := #[.tmp 146, .tmp 148]) rfl ?_); at_builtin; refine Kd.R_append (Kd.int .i64) (w0 := w) w.heap.size rfl (.tmp 146) (.tmp 148) 65 2 (.int .i64 0) 8 rfl Try.underlying65 info2 rfl (by decide) (by omega) u157 x157_3 t243 [.int .i64 t243] (fun k_ => some k_ ≠ (.slice (some ⟨go82, 0, none⟩) x155_3.length co82 : Value).ownBlock) (fun _ => False) rfl rfl ?aP (fun _ hk => hk.elim) ?aF ?aO ?aB ?aS ?aL ?_; (case aP => exact rfl); (case aB => exact sB); (case aF => exact (fun k_ hk => Kd.fresh' (Kd.R_lt (uR HO_155)) k_ hk)); (case aO => exact (uR HO_157)); (case aS => exact (zaa sB)); (case aL => have := LMc85.out; omega); intro v251 w113 ho hb hg hat; rw [← Ny250.out] at ho; obtain ⟨Av251, cv251, e_⟩ := Kd.R_slice ho; subst e_; have n0_ := za.mk (Kd.R_over' (uR HO_7) (Kd.R_typed (uR HO_157)) (by decide) hg); have n1_ := za.mk (Kd.R_over' (uR HO_154) (Kd.R_typed (uR HO_157)) (by decide) hg); have n2_ := za.mk (Kd.R_after (ok := (fun _ => True)) (by (with_reducible repeat (first | apply Kd.R_alloc | apply Kd.R_drewN | apply Kd.R_drew)); exact Kd.R_mono HO_155.out (fun _ hk => ⟨trivial, hk⟩)) hg hat); have n3_ := za.mk (Kd.R_over' (uR HO_156) (Kd.R_typed (uR HO_157)) (by decide) hg); have n4_ := za.mk (zga (g := gb209) (o := .cells #[.slice A0_0 l0_0.length c0_0, .int .i16 x210001_3, .int .i16 x210002_3, .int .i16 x210003_3, .int .i16 x210004_3, .bool x210005_3] 29 (0, 0)) (uK BK209) hg (Kd.R_ne HO_157.out BK209.out (by decide))); have n5_ := za.mk (zdc BK220.out (by intro h_; (with_reducible repeat (first | refine ze ?_ _ | refine zf ?_ | refine zc ?_ _)); exact h_) hg (Kd.R_ne HO_157.out BK220.out (by decide))); have n6_ := za.mk (zga (g := gb235) (o := .cells #[.int .i16 t231, .int .i16 t232, .int .i16 t233, .int .i16 t234] 27 (0, 0)) (uK BK235) hg (Kd.R_ne HO_157.out BK235.out (by decide))); have n7_ := za.mk (zga (g := gb242) (o := .cells #[.int .i16 t237, .int .i16 t238, .int .i16 t239, .int .i16 t240] 27 (0, 0)) (uK BK242) hg (Kd.R_ne HO_157.out BK242.out (by decide))); have n8_ := za.mk hb; have n9_ := za.mk ho; clear HO_7; clear HO_154; clear HO_155; clear HO_156; clear BK209; clear BK220; clear BK235; clear BK242; clear HB; clear HO_157; have HO_7 := n0_; have HO_154 := n1_; have HO_155 := n2_; have HO_156 := n3_; have BK209 := n4_; have BK220 := n5_; have BK235 := n6_; have BK242 := n7_; have HB := n8_; have HO252 := n9_; clear n0_ n1_ n2_ n3_ n4_ n5_ n6_ n7_ n8_ n9_; clear ho hb hg hat; have hcz114_0 := zic BK220.out; have hcz114_1 := zuc BK220.out; have hcz114_2 := zmc BK220.out; have hcz114_3 := zkc BK220.out; have hfz114_0 := zg BK220.out 0; have hfz114_3 := zg BK220.out 3))
          (try simp only [← hl154_3])
          go_roundg k3
          case measure => have := HK1.out; have := HK2.out; have := HK3.out; omega
          case rel => exact ⟨_, (x7_3), (wrap64 (x11_3 + 1)), (y246), (y247), (y249), (y250), (x210001_3), (x210002_3), (x210003_3), (x210004_3), (x210005_3), (by first | rfl | (simp; done) | (simp [*]; done)), H', ⟨by have := HK1.out; have := HK2.out; have := HK3.out; omega⟩, ⟨by (try simp only [hl154_2]); (try simp only [hl154_3]); (with_reducible repeat (first | apply Kd.R_alloc | apply Kd.R_drewN | apply Kd.R_drew)); exact Kd.R_mono (Kd.R_far (p := ⟨gb220, 3, none⟩) (Kd.R_types HO_7.out BK220.out (by decide)) (fun _ hk => hk.2) _) (fun _ hk => hk.1)⟩, ⟨by (try simp only [hl154_2]); (try simp only [hl154_3]); (with_reducible repeat (first | apply Kd.R_alloc | apply Kd.R_drewN | apply Kd.R_drew)); exact Kd.R_mono (Kd.R_far (p := ⟨gb220, 3, none⟩) (Kd.R_types HO_154.out BK220.out (by decide)) (fun _ hk => hk.2) _) (fun _ hk => trivial)⟩, ⟨by (try simp only [hl154_2]); (try simp only [hl154_3]); (with_reducible repeat (first | apply Kd.R_alloc | apply Kd.R_drewN | apply Kd.R_drew)); exact Kd.R_mono (Kd.R_far (p := ⟨gb220, 3, none⟩) (Kd.R_types HO_155.out BK220.out (by decide)) (fun _ hk => hk.2) _) (fun _ hk => hk.1.2)⟩, ⟨by (try simp only [hl154_2]); (try simp only [hl154_3]); (with_reducible repeat (first | apply Kd.R_alloc | apply Kd.R_drewN | apply Kd.R_drew)); exact Kd.R_mono (Kd.R_far (p := ⟨gb220, 3, none⟩) (Kd.R_types HO_156.out BK220.out (by decide)) (fun _ hk => hk.2) _) (fun _ hk => hk.1)⟩, ⟨by (try simp only [hl154_2]); (try simp only [hl154_3]); (with_reducible repeat (first | apply Kd.R_alloc | apply Kd.R_drewN | apply Kd.R_drew)); exact Kd.R_mono (Kd.R_far (p := ⟨gb220, 3, none⟩) (Kd.R_types HO252.out BK220.out (by decide)) (fun _ hk => hk.2) _) (fun _ hk => hk.1)⟩, ⟨by (try simp only [hl154_2]); (try simp only [hl154_3]); (with_reducible repeat (first | refine ze ?_ _ | refine zf ?_ | refine zc ?_ _)); refine zm ?_ NB209_220.out _; (with_reducible repeat (first | refine ze ?_ _ | refine zf ?_ | refine zc ?_ _)); exact BK209.out⟩, ⟨by (try simp only [hl154_2]); (try simp only [hl154_3]); (with_reducible repeat (first | refine ze ?_ _ | refine zf ?_ | refine zc ?_ _)); apply blk4_put; (with_reducible repeat (first | refine ze ?_ _ | refine zf ?_ | refine zc ?_ _)); exact BK220.out⟩, ⟨by (try simp only [hl154_2]); (try simp only [hl154_3]); (with_reducible repeat (first | refine ze ?_ _ | refine zf ?_ | refine zc ?_ _)); refine zm ?_ NB235_220.out _; (with_reducible repeat (first | refine ze ?_ _ | refine zf ?_ | refine zc ?_ _)); exact BK235.out⟩, ⟨sB⟩⟩
         rw [if_neg c56] at H
         have c56b0 : (t241 == 0) = false := beq_eq_false_iff_ne.mpr c56
         have c56b1 : (t241 != 0) = true := bne_iff_ne.mpr c56
         have H' := za.mk H
         clear H
         try go_wp2
         (try simp only [← hl154_3])
         go_roundg k3
         case measure => have := HK1.out; have := HK2.out; have := HK3.out; omega
         case rel => exact ⟨_, (x7_3), (wrap64 (x11_3 + 1)), (x154_3), (x155_3), (x156_3), (x157_3), (x210001_3), (x210002_3), (x210003_3), (x210004_3), (x210005_3), (by first | rfl | (simp; done) | (simp [*]; done)), H', ⟨by have := HK1.out; have := HK2.out; have := HK3.out; omega⟩, ⟨by (try simp only [hl154_2]); (try simp only [hl154_3]); (with_reducible repeat (first | apply Kd.R_alloc | apply Kd.R_drewN | apply Kd.R_drew)); exact Kd.R_mono (Kd.R_far (p := ⟨gb242, 3, none⟩) (Kd.R_far (p := ⟨gb242, 2, none⟩) (Kd.R_far (p := ⟨gb242, 1, none⟩) (Kd.R_far (p := ⟨gb242, 0, none⟩) (Kd.R_types HO_7.out BK242.out (by decide)) (fun _ hk => hk.2) (.int .i16 t237)) (fun _ hk => hk.2) (.int .i16 t238)) (fun _ hk => hk.2) (.int .i16 t239)) (fun _ hk => hk.2) (.int .i16 t240)) (fun _ hk => hk.1)⟩, ⟨by (try simp only [hl154_2]); (try simp only [hl154_3]); (with_reducible repeat (first | apply Kd.R_alloc | apply Kd.R_drewN | apply Kd.R_drew)); exact Kd.R_mono (Kd.R_far (p := ⟨gb242, 3, none⟩) (Kd.R_far (p := ⟨gb242, 2, none⟩) (Kd.R_far (p := ⟨gb242, 1, none⟩) (Kd.R_far (p := ⟨gb242, 0, none⟩) (Kd.R_types HO_154.out BK242.out (by decide)) (fun _ hk => hk.2) (.int .i16 t237)) (fun _ hk => hk.2) (.int .i16 t238)) (fun _ hk => hk.2) (.int .i16 t239)) (fun _ hk => hk.2) (.int .i16 t240)) (fun _ hk => trivial)⟩, ⟨by (try simp only [hl154_2]); (try simp only [hl154_3]); (with_reducible repeat (first | apply Kd.R_alloc | apply Kd.R_drewN | apply Kd.R_drew)); exact Kd.R_mono (Kd.R_far (p := ⟨gb242, 3, none⟩) (Kd.R_far (p := ⟨gb242, 2, none⟩) (Kd.R_far (p := ⟨gb242, 1, none⟩) (Kd.R_far (p := ⟨gb242, 0, none⟩) (Kd.R_types HO_155.out BK242.out (by decide)) (fun _ hk => hk.2) (.int .i16 t237)) (fun _ hk => hk.2) (.int .i16 t238)) (fun _ hk => hk.2) (.int .i16 t239)) (fun _ hk => hk.2) (.int .i16 t240)) (fun _ hk => hk.1)⟩, ⟨by (try simp only [hl154_2]); (try simp only [hl154_3]); (with_reducible repeat (first | apply Kd.R_alloc | apply Kd.R_drewN | apply Kd.R_drew)); exact Kd.R_mono (Kd.R_far (p := ⟨gb242, 3, none⟩) (Kd.R_far (p := ⟨gb242, 2, none⟩) (Kd.R_far (p := ⟨gb242, 1, none⟩) (Kd.R_far (p := ⟨gb242, 0, none⟩) (Kd.R_types HO_156.out BK242.out (by decide)) (fun _ hk => hk.2) (.int .i16 t237)) (fun _ hk => hk.2) (.int .i16 t238)) (fun _ hk => hk.2) (.int .i16 t239)) (fun _ hk => hk.2) (.int .i16 t240)) (fun _ hk => hk.1)⟩, ⟨by (try simp only [hl154_2]); (try simp only [hl154_3]); (with_reducible repeat (first | apply Kd.R_alloc | apply Kd.R_drewN | apply Kd.R_drew)); exact Kd.R_mono (Kd.R_far (p := ⟨gb242, 3, none⟩) (Kd.R_far (p := ⟨gb242, 2, none⟩) (Kd.R_far (p := ⟨gb242, 1, none⟩) (Kd.R_far (p := ⟨gb242, 0, none⟩) (Kd.R_types HO_157.out BK242.out (by decide)) (fun _ hk => hk.2) (.int .i16 t237)) (fun _ hk => hk.2) (.int .i16 t238)) (fun _ hk => hk.2) (.int .i16 t239)) (fun _ hk => hk.2) (.int .i16 t240)) (fun _ hk => hk.1)⟩, ⟨by (try simp only [hl154_2]); (try simp only [hl154_3]); (with_reducible repeat (first | refine ze ?_ _ | refine zf ?_ | refine zc ?_ _)); refine zm ?_ NB209_242.out _; (with_reducible repeat (first | refine ze ?_ _ | refine zf ?_ | refine zc ?_ _)); refine zm ?_ NB209_242.out _; (with_reducible repeat (first | refine ze ?_ _ | refine zf ?_ | refine zc ?_ _)); refine zm ?_ NB209_242.out _; (with_reducible repeat (first | refine ze ?_ _ | refine zf ?_ | refine zc ?_ _)); refine zm ?_ NB209_242.out _; (with_reducible repeat (first | refine ze ?_ _ | refine zf ?_ | refine zc ?_ _)); exact BK209.out⟩, ⟨by (try simp only [hl154_2]); (try simp only [hl154_3]); (with_reducible repeat (first | refine ze ?_ _ | refine zf ?_ | refine zc ?_ _)); refine zka ?_ NB220_242.out _; (with_reducible repeat (first | refine ze ?_ _ | refine zf ?_ | refine zc ?_ _)); refine zka ?_ NB220_242.out _; (with_reducible repeat (first | refine ze ?_ _ | refine zf ?_ | refine zc ?_ _)); refine zka ?_ NB220_242.out _; (with_reducible repeat (first | refine ze ?_ _ | refine zf ?_ | refine zc ?_ _)); refine zka ?_ NB220_242.out _; (with_reducible repeat (first | refine ze ?_ _ | refine zf ?_ | refine zc ?_ _)); exact BK220.out⟩, ⟨by (try simp only [hl154_2]); (try simp only [hl154_3]); (with_reducible repeat (first | refine ze ?_ _ | refine zf ?_ | refine zc ?_ _)); refine zm ?_ NB235_242.out _; (with_reducible repeat (first | refine ze ?_ _ | refine zf ?_ | refine zc ?_ _)); refine zm ?_ NB235_242.out _; (with_reducible repeat (first | refine ze ?_ _ | refine zf ?_ | refine zc ?_ _)); refine zm ?_ NB235_242.out _; (with_reducible repeat (first | refine ze ?_ _ | refine zf ?_ | refine zc ?_ _)); refine zm ?_ NB235_242.out _; (with_reducible repeat (first | refine ze ?_ _ | refine zf ?_ | refine zc ?_ _)); exact BK235.out⟩, ⟨sB⟩⟩
        rw [if_neg c53] at H
        have c53b0 : decide (x11_3 < (x7_3.length : Int)) = false := decide_eq_false c53
        clear c53
        have H' := za.mk H
        clear H
        obtain ⟨Ao124, co124, eo124⟩ := Kd.R_slice HO_7.out
        subst eo124
        go_wp2
        (try simp only [← hl154_2, ← hl154_3])
        go_roundg k3
        case measure => have := HK1.out; have := HK2.out; have := HK3.out; omega
        case rel => exact ⟨_, (x7_3), (wrap64 (x8_2 + 1)), (x154_3), (x155_3), (x156_3), (x157_3), (x210001_3), (x210002_3), (x210003_3), (x210004_3), (x210005_3), (by first | rfl | (simp; done) | (simp [*]; done)), H', ⟨by have := HK1.out; have := HK2.out; have := HK3.out; omega⟩, ⟨by (try simp only [hl154_2]); (try simp only [hl154_3]); (with_reducible repeat (first | apply Kd.R_alloc | apply Kd.R_drewN | apply Kd.R_drew)); exact HO_7.out⟩, ⟨by (try simp only [hl154_2]); (try simp only [hl154_3]); (with_reducible repeat (first | apply Kd.R_alloc | apply Kd.R_drewN | apply Kd.R_drew)); exact HO_154.out⟩, ⟨by (try simp only [hl154_2]); (try simp only [hl154_3]); (with_reducible repeat (first | apply Kd.R_alloc | apply Kd.R_drewN | apply Kd.R_drew)); exact HO_155.out⟩, ⟨by (try simp only [hl154_2]); (try simp only [hl154_3]); (with_reducible repeat (first | apply Kd.R_alloc | apply Kd.R_drewN | apply Kd.R_drew)); exact HO_156.out⟩, ⟨by (try simp only [hl154_2]); (try simp only [hl154_3]); (with_reducible repeat (first | apply Kd.R_alloc | apply Kd.R_drewN | apply Kd.R_drew)); exact HO_157.out⟩, ⟨by (try simp only [hl154_2]); (try simp only [hl154_3]); (with_reducible repeat (first | refine ze ?_ _ | refine zf ?_ | refine zc ?_ _)); exact BK209.out⟩, ⟨by (try simp only [hl154_2]); (try simp only [hl154_3]); (with_reducible repeat (first | refine ze ?_ _ | refine zf ?_ | refine zc ?_ _)); exact BK220.out⟩, ⟨sB⟩⟩
     rw [if_neg c42] at H
     have c42b0 : decide (x8_2 < (x157_2.length : Int)) = false := decide_eq_false c42
     clear c42
     obtain rfl := Option.some.inj H
     have hnb125 := NB220_209.out
     have hnc125 := NB209_220.out
     have hcz126_0 := zic BK220.out
     have hcz126_1 := zuc BK220.out
     have hcz126_2 := zmc BK220.out
     have hcz126_3 := zkc BK220.out
     have hfz126_0 := zg BK220.out 0
     have hfz126_3 := zg BK220.out 3
     obtain ⟨Ao127, co127, eo127⟩ := Kd.R_slice HO_157.out
     subst eo127
     go_wp2
     go_ret
     exact ⟨gb220, by first | rfl | (simp; done) | (simp [*]; done), GE220.out, _, _, _, _, BK220.out, HO_154.out, HO_155.out, Kd.R_mono HO_156.out (fun _ _ => trivial), Kd.R_mono HO_157.out (fun _ _ => trivial), HB.out⟩
end Go.Proofs.Yteciomagemjjaaa.J
