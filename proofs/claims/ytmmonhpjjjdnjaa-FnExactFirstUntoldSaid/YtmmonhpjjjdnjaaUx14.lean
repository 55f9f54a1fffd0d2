-- Written by wip/tools/myprint.py, a program of this session, by way of the kit's print.
import Derived.Test.YtmmonhpjjjdnjaaUx0
import Derived.Test.YtmmonhpjjjdnjaaLLoadU
import Derived.Test.YtmmonhpjjjdnjaaUx1
import Derived.Test.YtmmonhpjjjdnjaaUx9
import Derived.Test.YtmmonhpjjjdnjaaUx12
namespace Go.Proofs.Ytmmonhpjjjdnjaa.U
open Go.RowKit Go.Proofs.YtmmonhpjjjdnjaaW.PrintWords Go.Proofs.YtmmonhpjjjdnjaaW.PrintLast Go.Proofs.YtmmonhpjjjdnjaaW.PrintMore
attribute [local go_sem] zba zea zha zia zy zz zda zca   -- for this text's walks alone
set_option linter.unusedVariables false
set_option linter.unusedSimpArgs false

attribute [local go_sem high] eqA46 eqA50 eqA52
/-! ### spec_l03Plan: function 40 -/
mutual
def spec_l03Plan.l0 : Nat → List (S54) → Int → Int → Int → Bool → Bool → Option (Bool)
 | 0, _, _, _, _, _, _ => none
 | k + 1, x1, x5, x141000, x141001, x141002, x141003 => if x5 < (x1.length : Int) then (if 0 ≤ x5 then (if (rd_T54 x1 x5).f3 = true then (if (!(((rd_T54 x1 x5).f0.f0) == 0) || (!(((rd_T54 x1 x5).f0.f1) == 0) || (!(((rd_T54 x1 x5).f0.f2) == 0) || (!(((rd_T54 x1 x5).f0.f3) == 0) || (!(((rd_T54 x1 x5).f0.f4) == 0) || (!(((rd_T54 x1 x5).f0.f5) == 0) || (!(((rd_T54 x1 x5).f0.f6) == 0) || (!(((rd_T54 x1 x5).f0.f7) == 0) || (!(((rd_T54 x1 x5).f0.f8) == 0) || (!(((rd_T54 x1 x5).f0.f9) == 0) || (!(((rd_T54 x1 x5).f0.f10) == 0) || (!(((rd_T54 x1 x5).f0.f11) == 0) || (!(((rd_T54 x1 x5).f0.f12) == 0) || (!(((rd_T54 x1 x5).f0.f13) == 0))))))))))))))) = true then (some false) else (if (!(((rd_T54 x1 x5).f1.f0) == 0) || (!(((rd_T54 x1 x5).f1.f1) == 0) || (!(((rd_T54 x1 x5).f1.f2) == 0)))) = true then (some false) else ((spec_l03Find.f k x141000 x141001 x141002 x141003 ((rd_T54 x1 x5).f2.f0) ((rd_T54 x1 x5).f2.f1)).bind fun t146 => (if t146 < 0 then (some false) else (spec_l03Plan.l0 k x1 (wrap64 (x5 + 1)) x141000 x141001 x141002 x141003))))) else (if (((rd_T54 x1 x5).f0.f0) == 0 && (((rd_T54 x1 x5).f0.f1) == 0 && (((rd_T54 x1 x5).f0.f2) == 0 && (((rd_T54 x1 x5).f0.f3) == 0 && (((rd_T54 x1 x5).f0.f4) == 0 && (((rd_T54 x1 x5).f0.f5) == 0 && (((rd_T54 x1 x5).f0.f6) == 0 && (((rd_T54 x1 x5).f0.f7) == 0 && (((rd_T54 x1 x5).f0.f8) == 0 && (((rd_T54 x1 x5).f0.f9) == 0 && (((rd_T54 x1 x5).f0.f10) == 0 && (((rd_T54 x1 x5).f0.f11) == 0 && (((rd_T54 x1 x5).f0.f12) == 0 && (((rd_T54 x1 x5).f0.f13) == 0)))))))))))))) = true then (spec_l03Plan.j1 k x1 x5 true x141000 x141001 x141002 x141003) else ((spec_l03Weighing.f k x141000 x141001 x141002 x141003 ((rd_T54 x1 x5).f0.f0) ((rd_T54 x1 x5).f0.f1) ((rd_T54 x1 x5).f0.f2) ((rd_T54 x1 x5).f0.f3) ((rd_T54 x1 x5).f0.f4) ((rd_T54 x1 x5).f0.f5) ((rd_T54 x1 x5).f0.f6) ((rd_T54 x1 x5).f0.f7) ((rd_T54 x1 x5).f0.f8) ((rd_T54 x1 x5).f0.f9) ((rd_T54 x1 x5).f0.f10) ((rd_T54 x1 x5).f0.f11) ((rd_T54 x1 x5).f0.f12) ((rd_T54 x1 x5).f0.f13)).bind fun t149 => (if t149 = true then (spec_l03Plan.j1 k x1 x5 (!(((rd_T54 x1 x5).f2.f0) == 0) || (((rd_T54 x1 x5).f2.f1))) x141000 x141001 x141002 x141003) else (spec_l03Plan.j1 k x1 x5 true x141000 x141001 x141002 x141003))))) else (none)) else (some true)
def spec_l03Plan.j1 : Nat → List (S54) → Int → Bool → Int → Int → Bool → Bool → Option (Bool)
 | 0, _, _, _, _, _, _, _ => none
 | k + 1, x1, x5, x70, x141000, x141001, x141002, x141003 => if x70 = true then (some false) else (spec_l03Plan.l1 k x1 x5 0 x141000 x141001 x141002 x141003)
def spec_l03Plan.l1 : Nat → List (S54) → Int → Int → Int → Int → Bool → Bool → Option (Bool)
 | 0, _, _, _, _, _, _, _ => none
 | k + 1, x1, x5, x7, x141000, x141001, x141002, x141003 => if x7 < 3 then (if 0 ≤ x7 then (if (wrap64 (rd [(rd_T54 x1 x5).f1.f0, (rd_T54 x1 x5).f1.f1, (rd_T54 x1 x5).f1.f2] x7)) ≤ x5 then (some false) else (if (wrap64 (rd [(rd_T54 x1 x5).f1.f0, (rd_T54 x1 x5).f1.f1, (rd_T54 x1 x5).f1.f2] x7)) ≥ (x1.length : Int) then (some false) else (spec_l03Plan.l1 k x1 x5 (wrap64 (x7 + 1)) x141000 x141001 x141002 x141003))) else (none)) else (spec_l03Plan.l0 k x1 (wrap64 (x5 + 1)) x141000 x141001 x141002 x141003)
end
def spec_l03Plan.f (k : Nat) (a0_0 : Int) (a0_1 : Int) (a0_2 : Bool) (a0_3 : Bool) (l1 : List (S54)) : Option (Bool) := (spec_l00In.f (l1.length : Int) 1 400).bind fun t141 => (if t141 = true then (spec_l03Plan.l0 k l1 0 a0_0 a0_1 a0_2 a0_3) else (some false))
def spec_l03Plan.T8 : Bool × List (List Nat × List Nat) := (true, [([], []), ([0], [0]), ([1], [1]), ([2], [2]), ([], []), ([3, 4], [3, 4]), ([5], [5]), ([6], [6]), ([7, 6], [6, 7]), ([8, 6], [6, 8]), ([9, 6], [6, 9]), ([6], [6]), ([10, 11, 6], [6, 10, 11]), ([6, 12], [6, 12]), ([13, 6], [13]), ([14], [14]), ([14], [14]), ([16, 14], [14, 16]), ([17, 14], [14, 17]), ([18, 14], [14, 18]), ([15, 19, 14, 14], [14, 15, 19]), ([20, 14], [14, 20]), ([14, 21], [14, 21])])
def spec_l03Plan.B8 : List Nat := [0, 1, 3, 7, 0, 31, 63, 127, 255, 511, 1023, 127, 4095, 8191, 16383, 32767, 32767, 98303, 229375, 491519, 1048575, 2097151, 4194303]
theorem spec_l03Plan.tab8 : rtab .any (opsOf Try.f40 8) = spec_l03Plan.T8 := by kernel_rfl
theorem spec_l03Plan.bits8 : waitsOk spec_l03Plan.T8.2 spec_l03Plan.B8 = true := by kernel_rfl
def spec_l03Plan.T10 : Bool × List (List Nat × List Nat) := (true, [([], []), ([0], [0]), ([1], [1]), ([2], [2]), ([], []), ([3, 4], [3, 4]), ([5], [5]), ([6], [6]), ([6], [6]), ([8, 6], [6, 8]), ([9, 6], [6, 9]), ([10, 6], [6, 10]), ([7, 11, 6, 6], [6, 7, 11]), ([12, 6], [6, 12]), ([6, 13], [6, 13]), ([14, 12], [14]), ([15], [15]), ([16, 15], [15, 16]), ([17, 15], [15, 17]), ([18, 15], [15, 18]), ([15], [15]), ([19, 20, 15], [15, 19, 20]), ([15, 21], [15, 21])])
def spec_l03Plan.B10 : List Nat := [0, 1, 3, 7, 0, 31, 63, 127, 127, 383, 895, 1919, 4095, 8191, 16383, 32767, 65535, 131071, 262143, 524287, 65535, 2097151, 4194303]
theorem spec_l03Plan.tab10 : rtab .any (opsOf Try.f40 10) = spec_l03Plan.T10 := by kernel_rfl
theorem spec_l03Plan.bits10 : waitsOk spec_l03Plan.T10.2 spec_l03Plan.B10 = true := by kernel_rfl
set_option maxHeartbeats 8000000 in
set_option maxRecDepth 100000 in
theorem spec_l03Plan.calls (k : Nat) (a0_0 : Int) (a0_1 : Int) (a0_2 : Bool) (a0_3 : Bool) (A1 : Option Addr) (c1 : Nat) (l1 : List (S54)) (r : Bool) (w : World) (hr1 : Kd.C k54 w A1 l1.length l1) (hc1 : l1.length ≤ c1) (h : spec_l03Plan.f k a0_0 a0_1 a0_2 a0_3 l1 = some r) :
  Calls Try.prog 40 #[.agg #[.int .i8 a0_0, .int .i8 a0_1, .bool a0_2, .bool a0_3], .slice A1 l1.length c1] w fun e w' => e = .returned (.bool r) ∧ Below w.heap.size w w' := by
 have hu29 := Try.underlying29
 have hu50 := Try.underlying50
 have hu52 := Try.underlying52
 have hu46 := Try.underlying46
 have HR1 := zd.mk hr1
 have HC1 := zd.mk hc1
 clear hr1 hc1
 have HB := zd.mk (Below.refl w.heap.size w)
 have H : ((spec_l00In.f (l1.length : Int) 1 400).bind fun t141 => (if t141 = true then (spec_l03Plan.l0 k l1 0 a0_0 a0_1 a0_2 a0_3) else (some false))) = some r := h
 clear h
 replace H := Option.bind_eq_some_iff.mp H
 obtain ⟨t141, A30, H⟩ := H
 replace H : (if t141 = true then (spec_l03Plan.l0 k l1 0 a0_0 a0_1 a0_2 a0_3) else (some false)) = some r := H
 have A3 := zd.mk A30
 clear A30
 by_cases c4 : t141 = true
 ·subst c4
  have H1 : (spec_l03Plan.l0 k l1 0 a0_0 a0_1 a0_2 a0_3) = some r := by rw [if_pos rfl] at H; exact H
  clear H
  have H := H1
  clear H1
  have H' := zd.mk H
  clear H
  go_enter Try.func40, Try.ntmps40
  go_wp2_with (first | ((with_reducible refine zo (N := 2) rfl ?_); (try (refine gate_guard (by rfl) ?_; dsimp only)); refine zn ?hg (N := 2) ?hd (cs := #[.int .i8 a0_0, .int .i8 a0_1, .bool a0_2, .bool a0_3]) (t := 29) ?hr ?_; (case hd => rfl); (case hg => rfl); (case hr => first | (go_simp; done) | (go_simp; rfl)); intro gb140 hg w5 hbox hb; obtain ⟨n0_, n2_⟩ := bx (by repeat (first | (with_reducible first | exact HB.out | apply zc | apply za | apply zb) | exact HB.out)) hb hg; have n1_ := zd.mk (hbox); have n3_ := n2_; clear HB; have HB := n0_; have BK140 := n1_; have GW140 := n2_; have GE140 := n3_; clear n0_ n1_ n2_ n3_; clear hb hbox hg) | ((with_reducible refine zr (f := 37) rfl ?_); refine zx (some 10) rfl rfl Try.func37 (by kernel_rfl) rfl #[.int .i64 (l1.length : Int), .int .i64 1, .int .i64 400] rfl (by (try simp only [List.map_toArray, List.map_cons, List.map_nil]); first | done | rfl | (simp only [List.length_drop, List.length_take]; rfl)) ?_; (with_reducible refine (spec_l00In.calls (l1.length : Int) 1 400 true _ A3.out).mono ?_); rintro e w' ⟨rfl, ⟨nd, rfl⟩⟩; refine ⟨_, rfl, ?_⟩))
  go_loopg [5] k (fun kq v5 w' => ∃ (x5_1 : Int), v5 = .int .i64 x5_1 ∧ zd (spec_l03Plan.l0 kq l1 x5_1 a0_0 a0_1 a0_2 a0_3 = some r) ∧ zd (kq ≤ k) ∧ zd (w'.heap[gb140]? = some (.cells #[.int .i8 a0_0, .int .i8 a0_1, .bool a0_2, .bool a0_3] 29 (0, 0))) ∧ zd (Below w.heap.size w w'))
  case atStart => exact ⟨(0), (by first | rfl | (simp; done) | (simp [*]; done)), H', ⟨Nat.le_refl _⟩, ⟨by (with_reducible repeat (first | refine zf ?_ _ | refine zh ?_ | refine zg ?_ _)); exact BK140.out⟩, ⟨by repeat (first | (with_reducible first | exact HB.out | apply zc | apply za | apply zb | refine ze ?_ GE140.out) | exact HB.out)⟩⟩
  case round =>
   clear H'
   try clear c1
   try clear p2
   try clear c3
   try clear c4
   obtain ⟨x5_1, rfl, HA, HK1, BK140, HB⟩ := hrel
   cases gk with
   | zero => exact absurd HA.out (by simp [spec_l03Plan.l0])
   | succ k1 =>
    have H := HA.out
    clear HA
    simp only [spec_l03Plan.l0] at H
    by_cases c6 : x5_1 < (l1.length : Int)
    ·rw [if_pos c6] at H
     have c6b0 : decide (x5_1 < (l1.length : Int)) = true := decide_eq_true c6
     clear c6
     by_cases c7 : 0 ≤ x5_1
     ·rw [if_pos c7] at H
      have c7b0 : decide (0 ≤ x5_1) = true := decide_eq_true c7
      clear c7
      obtain ⟨bq8, hbq8⟩ : ∃ b_ : Bool, b_ = ((rd_T54 l1 x5_1).f3) := ⟨_, rfl⟩
      replace H : (if bq8 = true then (if (!(((rd_T54 l1 x5_1).f0.f0) == 0) || (!(((rd_T54 l1 x5_1).f0.f1) == 0) || (!(((rd_T54 l1 x5_1).f0.f2) == 0) || (!(((rd_T54 l1 x5_1).f0.f3) == 0) || (!(((rd_T54 l1 x5_1).f0.f4) == 0) || (!(((rd_T54 l1 x5_1).f0.f5) == 0) || (!(((rd_T54 l1 x5_1).f0.f6) == 0) || (!(((rd_T54 l1 x5_1).f0.f7) == 0) || (!(((rd_T54 l1 x5_1).f0.f8) == 0) || (!(((rd_T54 l1 x5_1).f0.f9) == 0) || (!(((rd_T54 l1 x5_1).f0.f10) == 0) || (!(((rd_T54 l1 x5_1).f0.f11) == 0) || (!(((rd_T54 l1 x5_1).f0.f12) == 0) || (!(((rd_T54 l1 x5_1).f0.f13) == 0))))))))))))))) = true then (some false) else (if (!(((rd_T54 l1 x5_1).f1.f0) == 0) || (!(((rd_T54 l1 x5_1).f1.f1) == 0) || (!(((rd_T54 l1 x5_1).f1.f2) == 0)))) = true then (some false) else ((spec_l03Find.f k1 a0_0 a0_1 a0_2 a0_3 ((rd_T54 l1 x5_1).f2.f0) ((rd_T54 l1 x5_1).f2.f1)).bind fun t146 => (if t146 < 0 then (some false) else (spec_l03Plan.l0 k1 l1 (wrap64 (x5_1 + 1)) a0_0 a0_1 a0_2 a0_3))))) else (if (((rd_T54 l1 x5_1).f0.f0) == 0 && (((rd_T54 l1 x5_1).f0.f1) == 0 && (((rd_T54 l1 x5_1).f0.f2) == 0 && (((rd_T54 l1 x5_1).f0.f3) == 0 && (((rd_T54 l1 x5_1).f0.f4) == 0 && (((rd_T54 l1 x5_1).f0.f5) == 0 && (((rd_T54 l1 x5_1).f0.f6) == 0 && (((rd_T54 l1 x5_1).f0.f7) == 0 && (((rd_T54 l1 x5_1).f0.f8) == 0 && (((rd_T54 l1 x5_1).f0.f9) == 0 && (((rd_T54 l1 x5_1).f0.f10) == 0 && (((rd_T54 l1 x5_1).f0.f11) == 0 && (((rd_T54 l1 x5_1).f0.f12) == 0 && (((rd_T54 l1 x5_1).f0.f13) == 0)))))))))))))) = true then (spec_l03Plan.j1 k1 l1 x5_1 true a0_0 a0_1 a0_2 a0_3) else ((spec_l03Weighing.f k1 a0_0 a0_1 a0_2 a0_3 ((rd_T54 l1 x5_1).f0.f0) ((rd_T54 l1 x5_1).f0.f1) ((rd_T54 l1 x5_1).f0.f2) ((rd_T54 l1 x5_1).f0.f3) ((rd_T54 l1 x5_1).f0.f4) ((rd_T54 l1 x5_1).f0.f5) ((rd_T54 l1 x5_1).f0.f6) ((rd_T54 l1 x5_1).f0.f7) ((rd_T54 l1 x5_1).f0.f8) ((rd_T54 l1 x5_1).f0.f9) ((rd_T54 l1 x5_1).f0.f10) ((rd_T54 l1 x5_1).f0.f11) ((rd_T54 l1 x5_1).f0.f12) ((rd_T54 l1 x5_1).f0.f13)).bind fun t149 => (if t149 = true then (spec_l03Plan.j1 k1 l1 x5_1 (!(((rd_T54 l1 x5_1).f2.f0) == 0) || (((rd_T54 l1 x5_1).f2.f1))) a0_0 a0_1 a0_2 a0_3) else (spec_l03Plan.j1 k1 l1 x5_1 true a0_0 a0_1 a0_2 a0_3))))) = some r := by rw [← hbq8] at H; exact H
      have Nbq8 := zd.mk hbq8
      clear hbq8
      by_cases c9 : bq8 = true
      ·subst c9
       have H1 : (if (!(((rd_T54 l1 x5_1).f0.f0) == 0) || (!(((rd_T54 l1 x5_1).f0.f1) == 0) || (!(((rd_T54 l1 x5_1).f0.f2) == 0) || (!(((rd_T54 l1 x5_1).f0.f3) == 0) || (!(((rd_T54 l1 x5_1).f0.f4) == 0) || (!(((rd_T54 l1 x5_1).f0.f5) == 0) || (!(((rd_T54 l1 x5_1).f0.f6) == 0) || (!(((rd_T54 l1 x5_1).f0.f7) == 0) || (!(((rd_T54 l1 x5_1).f0.f8) == 0) || (!(((rd_T54 l1 x5_1).f0.f9) == 0) || (!(((rd_T54 l1 x5_1).f0.f10) == 0) || (!(((rd_T54 l1 x5_1).f0.f11) == 0) || (!(((rd_T54 l1 x5_1).f0.f12) == 0) || (!(((rd_T54 l1 x5_1).f0.f13) == 0))))))))))))))) = true then (some false) else (if (!(((rd_T54 l1 x5_1).f1.f0) == 0) || (!(((rd_T54 l1 x5_1).f1.f1) == 0) || (!(((rd_T54 l1 x5_1).f1.f2) == 0)))) = true then (some false) else ((spec_l03Find.f k1 a0_0 a0_1 a0_2 a0_3 ((rd_T54 l1 x5_1).f2.f0) ((rd_T54 l1 x5_1).f2.f1)).bind fun t146 => (if t146 < 0 then (some false) else (spec_l03Plan.l0 k1 l1 (wrap64 (x5_1 + 1)) a0_0 a0_1 a0_2 a0_3))))) = some r := by rw [if_pos rfl] at H; exact H
       clear H
       have H := H1
       clear H1
       by_cases c10 : (!(((rd_T54 l1 x5_1).f0.f0) == 0) || (!(((rd_T54 l1 x5_1).f0.f1) == 0) || (!(((rd_T54 l1 x5_1).f0.f2) == 0) || (!(((rd_T54 l1 x5_1).f0.f3) == 0) || (!(((rd_T54 l1 x5_1).f0.f4) == 0) || (!(((rd_T54 l1 x5_1).f0.f5) == 0) || (!(((rd_T54 l1 x5_1).f0.f6) == 0) || (!(((rd_T54 l1 x5_1).f0.f7) == 0) || (!(((rd_T54 l1 x5_1).f0.f8) == 0) || (!(((rd_T54 l1 x5_1).f0.f9) == 0) || (!(((rd_T54 l1 x5_1).f0.f10) == 0) || (!(((rd_T54 l1 x5_1).f0.f11) == 0) || (!(((rd_T54 l1 x5_1).f0.f12) == 0) || (!(((rd_T54 l1 x5_1).f0.f13) == 0))))))))))))))) = true
       ·rw [if_pos c10] at H
        have c10b0 : (!(((rd_T54 l1 x5_1).f0.f0) == 0) || (!(((rd_T54 l1 x5_1).f0.f1) == 0) || (!(((rd_T54 l1 x5_1).f0.f2) == 0) || (!(((rd_T54 l1 x5_1).f0.f3) == 0) || (!(((rd_T54 l1 x5_1).f0.f4) == 0) || (!(((rd_T54 l1 x5_1).f0.f5) == 0) || (!(((rd_T54 l1 x5_1).f0.f6) == 0) || (!(((rd_T54 l1 x5_1).f0.f7) == 0) || (!(((rd_T54 l1 x5_1).f0.f8) == 0) || (!(((rd_T54 l1 x5_1).f0.f9) == 0) || (!(((rd_T54 l1 x5_1).f0.f10) == 0) || (!(((rd_T54 l1 x5_1).f0.f11) == 0) || (!(((rd_T54 l1 x5_1).f0.f12) == 0) || (!(((rd_T54 l1 x5_1).f0.f13) == 0))))))))))))))) = true := c10
        clear c10
        obtain rfl := Option.some.inj H
        have p142 : 0 ≤ (x5_1 : Int) := od (by first | (with_reducible assumption) | assumption)
        have q142 : x5_1 < (l1.length : Int) := od (by first | (with_reducible assumption) | assumption)
        obtain ⟨ad142, e142, u1_0, u1_1, u1_2, u1_3, u1_4, u1_5, u1_6, u1_7, u1_8, u1_9, u1_10, u1_11, u1_12, u1_13, u1_14, u1_15, u1_16, u1_17, u1_18, u1_19⟩ := ac_T54 HB.out HR1.out x5_1 p142 q142
        (try rw [← Nbq8.out] at u1_18)
        (try rw [← Nbq8.out] at u1_19)
        cases e142
        replace p142 := eq_true p142
        replace q142 := eq_true q142
        try go_wp2
        have n0_ := zd.mk (zh BK140.out)
        have n1_ := zd.mk (zb HB.out)
        clear BK140
        clear HB
        have BK140 := n0_
        have HB := n1_
        clear n0_ n1_
        have p143 : 0 ≤ (x5_1 : Int) := od (by first | (with_reducible assumption) | assumption)
        have q143 : x5_1 < (l1.length : Int) := od (by first | (with_reducible assumption) | assumption)
        obtain ⟨ad143, e143, u2_0, u2_1, u2_2, u2_3, u2_4, u2_5, u2_6, u2_7, u2_8, u2_9, u2_10, u2_11, u2_12, u2_13, u2_14, u2_15, u2_16, u2_17, u2_18, u2_19, v1_0, v1_1, v1_2, v1_3, v1_4, v1_5, v1_6, v1_7, v1_8, v1_9, v1_10, v1_11, v1_12, v1_13, v1_14, v1_15, v1_16, v1_17, v1_18, v1_19⟩ := ab_T54 HB.out HR1.out x5_1 p143 q143
        (try rw [← Nbq8.out] at u2_18)
        (try rw [← Nbq8.out] at u2_19)
        obtain rfl : ad142 = ad143 := (by injection e143)
        replace p143 := eq_true p143
        replace q143 := eq_true q143
        refine start_ (n := 23) (S := fun w' => EA0 w' (ad142.add ((x5_1).toNat * 20)) (rd_T54 l1 x5_1) ((rd_T54 l1 x5_1).f2.f1) (true)) (ds := []) (fm 23 0) (by kernel_rfl) rfl rfl ⟨(bc HB.out v1_0), (bc HB.out v1_1), (bc HB.out v1_2), (bc HB.out v1_3), (bc HB.out v1_4), (bc HB.out v1_5), (bc HB.out v1_6), (bc HB.out v1_7), (bc HB.out v1_8), (bc HB.out v1_9), (bc HB.out v1_10), (bc HB.out v1_11), (bc HB.out v1_12), (bc HB.out v1_13), (bc HB.out v1_14), (bc HB.out v1_15), (bc HB.out v1_16), (bc HB.out v1_17), (by first | exact (bc HB.out v1_18) | (have h_ := (bc HB.out v1_18); rw [← Nbq8.out] at h_; exact h_)), (by first | exact (bc HB.out v1_19) | (have h_ := (bc HB.out v1_19); rw [← Nbq8.out] at h_; exact h_))⟩ (fun hHeld => ?_); refine zna spec_l03Plan.tab8 spec_l03Plan.bits8 (fun HT_ HW_ => ?_)
        generalize wr.drew = w11 at BK140 HB u2_0 u2_1 u2_10 u2_11 u2_12 u2_13 u2_14 u2_15 u2_16 u2_17 u2_18 u2_19 u2_2 u2_3 u2_4 u2_5 u2_6 u2_7 u2_8 u2_9 hHeld ⊢
        refine pb 0 25 (fm 23 1) rfl rfl HT_.out (by kernel_rfl) pq (by rfl) (by intro w'; go_simp; with_reducible rfl) (by simp only [Act.put, ea, eb, ec, zp, zq]; rfl) ?_
        refine pb 1 26 (fm 23 2) rfl rfl HT_.out (by kernel_rfl) pq (by rfl) (by intro w'; go_simp; with_reducible rfl) (by simp only [Act.put, ea, eb, ec, zp, zq]; rfl) ?_
        refine pb 2 27 (fm 23 3) rfl rfl HT_.out (by kernel_rfl) pq (by rfl) (by intro w'; go_simp; with_reducible rfl) (by simp only [Act.put, ea, eb, ec, zp, zq]; rfl) ?_
        refine pb 4 29 #[T, T, T, F, T, F, F, F, F, F, F, F, F, F, F, F, F, F, F, F, F, F, F] rfl rfl HT_.out (by kernel_rfl) pq (by rfl) (by intro w'; go_simp; with_reducible rfl) (by simp only [Act.put, ea, eb, ec, zp, zq]; rfl) ?_
        refine take_ (i := 3) (N := some 28) (v := ?_) (a' := ?_) (fm 23 5) rfl rfl (zaa HT_.out HW_.out (by kernel_rfl)) (fun _ _ _ h => h) (Or.inl ⟨by rfl, ?_⟩) hHeld ?_ ?_
        rotate_left
        ·rintro w' ⟨s0, s1, s2, s3, s4, s5, s6, s7, s8, s9, s10, s11, s12, s13, s14, s15, s16, s17, s18, s19⟩
         go_simp
         with_reducible rfl
        rotate_left
        ·simp only [Act.put, List.setIfInBounds_toArray, List.set_cons_zero, List.set_cons_succ, zp, zq]
         rfl
        refine pb 5 30 (fm 23 6) rfl rfl HT_.out (by kernel_rfl) pq (by rfl) (by intro w'; go_simp; with_reducible rfl) (by simp only [Act.put, ea, eb, ec, zp, zq]; rfl) ?_
        refine pb 6 31 (fm 23 7) rfl rfl HT_.out (by kernel_rfl) pq (by rfl) (by intro w'; go_simp; with_reducible rfl) (by simp only [Act.put, ea, eb, ec, zp, zq]; rfl) ?_
        refine pc 7 32 (fm 23 8) rfl rfl HT_.out (by kernel_rfl) pq (by rfl) rfl (by simp only [Act.put, ea, eb, ec, zp, zq]; rfl) ?_
        refine pc 8 33 (fm 23 9) rfl rfl HT_.out (by kernel_rfl) pq (by rfl) rfl (by simp only [Act.put, ea, eb, ec, zp, zq]; rfl) ?_
        refine pc 9 34 (fm 23 10) rfl rfl HT_.out (by kernel_rfl) pq (by rfl) rfl (by simp only [Act.put, ea, eb, ec, zp, zq]; rfl) ?_
        refine pc 10 35 (fm 23 11) rfl rfl HT_.out (by kernel_rfl) pq (by rfl) rfl (by simp only [Act.put, ea, eb, ec, zp, zq]; rfl) ?_
        refine pc 11 36 (fm 23 12) rfl rfl HT_.out (by kernel_rfl) pq (by rfl) rfl (by simp only [Act.put, ea, eb, ec, zp, zq]; rfl) ?_
        refine pc 12 37 (fm 23 13) rfl rfl HT_.out (by kernel_rfl) pq (by rfl) rfl (by simp only [Act.put, ea, eb, ec, zp, zq]; rfl) ?_
        refine pb 13 38 (fm 23 14) rfl rfl HT_.out (by kernel_rfl) pq (by rfl) (by intro w'; go_simp; with_reducible rfl) (by simp only [Act.put, ea, eb, ec, zp, zq]; rfl) ?_
        refine pb 14 39 (fm 23 15) rfl rfl HT_.out (by kernel_rfl) pq (by rfl) (by intro w'; go_simp; with_reducible rfl) (by simp only [Act.put, ea, eb, ec, zp, zq]; rfl) ?_
        refine pc 15 40 (fm 23 16) rfl rfl HT_.out (by kernel_rfl) pq (by rfl) rfl (by simp only [Act.put, ea, eb, ec, zp, zq]; rfl) ?_
        refine pc 16 41 (fm 23 17) rfl rfl HT_.out (by kernel_rfl) pq (by rfl) rfl (by simp only [Act.put, ea, eb, ec, zp, zq]; rfl) ?_
        refine pc 17 42 (fm 23 18) rfl rfl HT_.out (by kernel_rfl) pq (by rfl) rfl (by simp only [Act.put, ea, eb, ec, zp, zq]; rfl) ?_
        refine pc 18 43 (fm 23 19) rfl rfl HT_.out (by kernel_rfl) pq (by rfl) rfl (by simp only [Act.put, ea, eb, ec, zp, zq]; rfl) ?_
        refine pc 19 44 (fm 23 20) rfl rfl HT_.out (by kernel_rfl) pq (by rfl) rfl (by simp only [Act.put, ea, eb, ec, zp, zq]; rfl) ?_
        refine pc 20 45 (fm 23 21) rfl rfl HT_.out (by kernel_rfl) pq (by rfl) rfl (by simp only [Act.put, ea, eb, ec, zp, zq]; rfl) ?_
        refine pc 21 46 (fm 23 22) rfl rfl HT_.out (by kernel_rfl) pq (by rfl) rfl (by simp only [Act.put, ea, eb, ec, zp, zq]; rfl) ?_
        refine pb 22 47 (fm 23 23) rfl rfl HT_.out (by kernel_rfl) pq (by rfl) (by intro w'; go_simp; with_reducible rfl) (by simp only [Act.put, ea, eb, ec, zp, zq]; rfl) ?_
        refine done_ (done_of HT_.out (by kernel_rfl)) ?_
        try go_wp2
        go_ret
        exact ⟨by first | rfl | (simp [errW_none, errW_some] <;> rfl) | (simp [*, errW_none, errW_some] <;> rfl), by repeat (first | (with_reducible first | exact HB.out | apply zc | apply za | apply zb | refine ze ?_ GE140.out) | exact HB.out)⟩
       rw [if_neg c10] at H
       have c10b0 : (!(((rd_T54 l1 x5_1).f0.f0) == 0) || (!(((rd_T54 l1 x5_1).f0.f1) == 0) || (!(((rd_T54 l1 x5_1).f0.f2) == 0) || (!(((rd_T54 l1 x5_1).f0.f3) == 0) || (!(((rd_T54 l1 x5_1).f0.f4) == 0) || (!(((rd_T54 l1 x5_1).f0.f5) == 0) || (!(((rd_T54 l1 x5_1).f0.f6) == 0) || (!(((rd_T54 l1 x5_1).f0.f7) == 0) || (!(((rd_T54 l1 x5_1).f0.f8) == 0) || (!(((rd_T54 l1 x5_1).f0.f9) == 0) || (!(((rd_T54 l1 x5_1).f0.f10) == 0) || (!(((rd_T54 l1 x5_1).f0.f11) == 0) || (!(((rd_T54 l1 x5_1).f0.f12) == 0) || (!(((rd_T54 l1 x5_1).f0.f13) == 0))))))))))))))) = false := by simpa using c10
       clear c10
       by_cases c12 : (!(((rd_T54 l1 x5_1).f1.f0) == 0) || (!(((rd_T54 l1 x5_1).f1.f1) == 0) || (!(((rd_T54 l1 x5_1).f1.f2) == 0)))) = true
       ·rw [if_pos c12] at H
        have c12b0 : (!(((rd_T54 l1 x5_1).f1.f0) == 0) || (!(((rd_T54 l1 x5_1).f1.f1) == 0) || (!(((rd_T54 l1 x5_1).f1.f2) == 0)))) = true := c12
        clear c12
        obtain rfl := Option.some.inj H
        have p142 : 0 ≤ (x5_1 : Int) := od (by first | (with_reducible assumption) | assumption)
        have q142 : x5_1 < (l1.length : Int) := od (by first | (with_reducible assumption) | assumption)
        obtain ⟨ad142, e142, u1_0, u1_1, u1_2, u1_3, u1_4, u1_5, u1_6, u1_7, u1_8, u1_9, u1_10, u1_11, u1_12, u1_13, u1_14, u1_15, u1_16, u1_17, u1_18, u1_19⟩ := ac_T54 HB.out HR1.out x5_1 p142 q142
        (try rw [← Nbq8.out] at u1_18)
        (try rw [← Nbq8.out] at u1_19)
        cases e142
        replace p142 := eq_true p142
        replace q142 := eq_true q142
        try go_wp2
        have n0_ := zd.mk (zh BK140.out)
        have n1_ := zd.mk (zb HB.out)
        clear BK140
        clear HB
        have BK140 := n0_
        have HB := n1_
        clear n0_ n1_
        have p143 : 0 ≤ (x5_1 : Int) := od (by first | (with_reducible assumption) | assumption)
        have q143 : x5_1 < (l1.length : Int) := od (by first | (with_reducible assumption) | assumption)
        obtain ⟨ad143, e143, u2_0, u2_1, u2_2, u2_3, u2_4, u2_5, u2_6, u2_7, u2_8, u2_9, u2_10, u2_11, u2_12, u2_13, u2_14, u2_15, u2_16, u2_17, u2_18, u2_19, v1_0, v1_1, v1_2, v1_3, v1_4, v1_5, v1_6, v1_7, v1_8, v1_9, v1_10, v1_11, v1_12, v1_13, v1_14, v1_15, v1_16, v1_17, v1_18, v1_19⟩ := ab_T54 HB.out HR1.out x5_1 p143 q143
        (try rw [← Nbq8.out] at u2_18)
        (try rw [← Nbq8.out] at u2_19)
        obtain rfl : ad142 = ad143 := (by injection e143)
        replace p143 := eq_true p143
        replace q143 := eq_true q143
        have p144 : 0 ≤ (x5_1 : Int) := od (by first | (with_reducible assumption) | assumption)
        have q144 : x5_1 < (l1.length : Int) := od (by first | (with_reducible assumption) | assumption)
        obtain ⟨ad144, e144, u3_0, u3_1, u3_2, u3_3, u3_4, u3_5, u3_6, u3_7, u3_8, u3_9, u3_10, u3_11, u3_12, u3_13, u3_14, u3_15, u3_16, u3_17, u3_18, u3_19, v2_0, v2_1, v2_2, v2_3, v2_4, v2_5, v2_6, v2_7, v2_8, v2_9, v2_10, v2_11, v2_12, v2_13, v2_14, v2_15, v2_16, v2_17, v2_18, v2_19⟩ := ab_T54 HB.out HR1.out x5_1 p144 q144
        (try rw [← Nbq8.out] at u3_18)
        (try rw [← Nbq8.out] at u3_19)
        obtain rfl : ad142 = ad144 := (by injection e144)
        replace p144 := eq_true p144
        replace q144 := eq_true q144
        refine start_ (n := 23) (S := fun w' => EA w' (ad142.add ((x5_1).toNat * 20)) (rd_T54 l1 x5_1) ((rd_T54 l1 x5_1).f2.f1) (true) (EA0 w' (ad142.add ((x5_1).toNat * 20)) (rd_T54 l1 x5_1) ((rd_T54 l1 x5_1).f2.f1) (true))) (ds := []) (fm 23 0) (by kernel_rfl) rfl rfl ⟨(bc HB.out v1_0), (bc HB.out v1_1), (bc HB.out v1_2), (bc HB.out v1_3), (bc HB.out v1_4), (bc HB.out v1_5), (bc HB.out v1_6), (bc HB.out v1_7), (bc HB.out v1_8), (bc HB.out v1_9), (bc HB.out v1_10), (bc HB.out v1_11), (bc HB.out v1_12), (bc HB.out v1_13), (bc HB.out v1_14), (bc HB.out v1_15), (bc HB.out v1_16), (bc HB.out v1_17), (by first | exact (bc HB.out v1_18) | (have h_ := (bc HB.out v1_18); rw [← Nbq8.out] at h_; exact h_)), (by first | exact (bc HB.out v1_19) | (have h_ := (bc HB.out v1_19); rw [← Nbq8.out] at h_; exact h_)), (bc HB.out v2_0), (bc HB.out v2_1), (bc HB.out v2_2), (bc HB.out v2_3), (bc HB.out v2_4), (bc HB.out v2_5), (bc HB.out v2_6), (bc HB.out v2_7), (bc HB.out v2_8), (bc HB.out v2_9), (bc HB.out v2_10), (bc HB.out v2_11), (bc HB.out v2_12), (bc HB.out v2_13), (bc HB.out v2_14), (bc HB.out v2_15), (bc HB.out v2_16), (bc HB.out v2_17), (by first | exact (bc HB.out v2_18) | (have h_ := (bc HB.out v2_18); rw [← Nbq8.out] at h_; exact h_)), (by first | exact (bc HB.out v2_19) | (have h_ := (bc HB.out v2_19); rw [← Nbq8.out] at h_; exact h_))⟩ (fun hHeld => ?_); refine zna spec_l03Plan.tab8 spec_l03Plan.bits8 (fun HT_ HW_ => ?_)
        generalize wr.drew = w13 at BK140 HB u2_0 u2_1 u2_10 u2_11 u2_12 u2_13 u2_14 u2_15 u2_16 u2_17 u2_18 u2_19 u2_2 u2_3 u2_4 u2_5 u2_6 u2_7 u2_8 u2_9 u3_0 u3_1 u3_10 u3_11 u3_12 u3_13 u3_14 u3_15 u3_16 u3_17 u3_18 u3_19 u3_2 u3_3 u3_4 u3_5 u3_6 u3_7 u3_8 u3_9 hHeld ⊢
        refine pb 0 25 (fm 23 1) rfl rfl HT_.out (by kernel_rfl) pq (by rfl) (by intro w'; go_simp; with_reducible rfl) (by simp only [Act.put, ea, eb, ec, zp, zq]; rfl) ?_
        refine pb 1 26 (fm 23 2) rfl rfl HT_.out (by kernel_rfl) pq (by rfl) (by intro w'; go_simp; with_reducible rfl) (by simp only [Act.put, ea, eb, ec, zp, zq]; rfl) ?_
        refine pb 2 27 (fm 23 3) rfl rfl HT_.out (by kernel_rfl) pq (by rfl) (by intro w'; go_simp; with_reducible rfl) (by simp only [Act.put, ea, eb, ec, zp, zq]; rfl) ?_
        refine pb 4 29 #[T, T, T, F, T, F, F, F, F, F, F, F, F, F, F, F, F, F, F, F, F, F, F] rfl rfl HT_.out (by kernel_rfl) pq (by rfl) (by intro w'; go_simp; with_reducible rfl) (by simp only [Act.put, ea, eb, ec, zp, zq]; rfl) ?_
        refine take_ (i := 3) (N := some 28) (v := ?_) (a' := ?_) (fm 23 5) rfl rfl (zaa HT_.out HW_.out (by kernel_rfl)) (fun _ _ _ h => h) (Or.inl ⟨by rfl, ?_⟩) hHeld ?_ ?_
        rotate_left
        ·rintro w' ⟨s0, s1, s2, s3, s4, s5, s6, s7, s8, s9, s10, s11, s12, s13, s14, s15, s16, s17, s18, s19, s20, s21, s22, s23, s24, s25, s26, s27, s28, s29, s30, s31, s32, s33, s34, s35, s36, s37, s38, s39⟩
         go_simp
         with_reducible rfl
        rotate_left
        ·simp only [Act.put, List.setIfInBounds_toArray, List.set_cons_zero, List.set_cons_succ, zp, zq]
         rfl
        refine pb 5 30 (fm 23 6) rfl rfl HT_.out (by kernel_rfl) pq (by rfl) (by intro w'; go_simp; with_reducible rfl) (by simp only [Act.put, ea, eb, ec, zp, zq]; rfl) ?_
        refine pb 6 31 (fm 23 7) rfl rfl HT_.out (by kernel_rfl) pq (by rfl) (by intro w'; go_simp; with_reducible rfl) (by simp only [Act.put, ea, eb, ec, zp, zq]; rfl) ?_
        refine pb 7 32 (fm 23 8) rfl rfl HT_.out (by kernel_rfl) pq (by rfl) (by intro w'; go_simp; with_reducible rfl) (by simp only [Act.put, ea, eb, ec, zp, zq]; rfl) ?_
        refine pb 8 33 (fm 23 9) rfl rfl HT_.out (by kernel_rfl) pq (by rfl) (by intro w'; go_simp; with_reducible rfl) (by simp only [Act.put, ea, eb, ec, zp, zq]; rfl) ?_
        refine pb 9 34 (fm 23 10) rfl rfl HT_.out (by kernel_rfl) pq (by rfl) (by intro w'; go_simp; with_reducible rfl) (by simp only [Act.put, ea, eb, ec, zp, zq]; rfl) ?_
        refine pb 11 36 #[T, T, T, T, T, T, T, T, T, T, F, T, F, F, F, F, F, F, F, F, F, F, F] rfl rfl HT_.out (by kernel_rfl) pq (by rfl) (by intro w'; go_simp; with_reducible rfl) (by simp only [Act.put, ea, eb, ec, zp, zq]; rfl) ?_
        refine take_ (i := 10) (N := some 35) (v := ?_) (a' := ?_) (fm 23 12) rfl rfl (zaa HT_.out HW_.out (by kernel_rfl)) (fun _ _ _ h => h) (Or.inl ⟨by rfl, ?_⟩) hHeld ?_ ?_
        rotate_left
        ·rintro w' ⟨s0, s1, s2, s3, s4, s5, s6, s7, s8, s9, s10, s11, s12, s13, s14, s15, s16, s17, s18, s19, s20, s21, s22, s23, s24, s25, s26, s27, s28, s29, s30, s31, s32, s33, s34, s35, s36, s37, s38, s39⟩
         go_simp
         with_reducible rfl
        rotate_left
        ·simp only [Act.put, List.setIfInBounds_toArray, List.set_cons_zero, List.set_cons_succ, zp, zq]
         rfl
        refine pb 12 37 (fm 23 13) rfl rfl HT_.out (by kernel_rfl) pq (by rfl) (by intro w'; go_simp; with_reducible rfl) (by simp only [Act.put, ea, eb, ec, zp, zq]; rfl) ?_
        refine pb 13 38 (fm 23 14) rfl rfl HT_.out (by kernel_rfl) pq (by rfl) (by intro w'; go_simp; with_reducible rfl) (by simp only [Act.put, ea, eb, ec, zp, zq]; rfl) ?_
        refine pb 14 39 (fm 23 15) rfl rfl HT_.out (by kernel_rfl) pq (by rfl) (by intro w'; go_simp; with_reducible rfl) (by simp only [Act.put, ea, eb, ec, zp, zq]; rfl) ?_
        refine pc 15 40 (fm 23 16) rfl rfl HT_.out (by kernel_rfl) pq (by rfl) rfl (by simp only [Act.put, ea, eb, ec, zp, zq]; rfl) ?_
        refine pc 16 41 (fm 23 17) rfl rfl HT_.out (by kernel_rfl) pq (by rfl) rfl (by simp only [Act.put, ea, eb, ec, zp, zq]; rfl) ?_
        refine pc 17 42 (fm 23 18) rfl rfl HT_.out (by kernel_rfl) pq (by rfl) rfl (by simp only [Act.put, ea, eb, ec, zp, zq]; rfl) ?_
        refine pc 18 43 (fm 23 19) rfl rfl HT_.out (by kernel_rfl) pq (by rfl) rfl (by simp only [Act.put, ea, eb, ec, zp, zq]; rfl) ?_
        refine pc 19 44 (fm 23 20) rfl rfl HT_.out (by kernel_rfl) pq (by rfl) rfl (by simp only [Act.put, ea, eb, ec, zp, zq]; rfl) ?_
        refine pc 20 45 (fm 23 21) rfl rfl HT_.out (by kernel_rfl) pq (by rfl) rfl (by simp only [Act.put, ea, eb, ec, zp, zq]; rfl) ?_
        refine pc 21 46 (fm 23 22) rfl rfl HT_.out (by kernel_rfl) pq (by rfl) rfl (by simp only [Act.put, ea, eb, ec, zp, zq]; rfl) ?_
        refine pb 22 47 (fm 23 23) rfl rfl HT_.out (by kernel_rfl) pq (by rfl) (by intro w'; go_simp; with_reducible rfl) (by simp only [Act.put, ea, eb, ec, zp, zq]; rfl) ?_
        refine done_ (done_of HT_.out (by kernel_rfl)) ?_
        try go_wp2
        go_ret
        exact ⟨by first | rfl | (simp [errW_none, errW_some] <;> rfl) | (simp [*, errW_none, errW_some] <;> rfl), by repeat (first | (with_reducible first | exact HB.out | apply zc | apply za | apply zb | refine ze ?_ GE140.out) | exact HB.out)⟩
       rw [if_neg c12] at H
       have c12b0 : (!(((rd_T54 l1 x5_1).f1.f0) == 0) || (!(((rd_T54 l1 x5_1).f1.f1) == 0) || (!(((rd_T54 l1 x5_1).f1.f2) == 0)))) = false := by simpa using c12
       clear c12
       replace H := Option.bind_eq_some_iff.mp H
       obtain ⟨t146, A140, H⟩ := H
       replace H : (if t146 < 0 then (some false) else (spec_l03Plan.l0 k1 l1 (wrap64 (x5_1 + 1)) a0_0 a0_1 a0_2 a0_3)) = some r := H
       have A14 := zd.mk A140
       clear A140
       by_cases c15 : t146 < 0
       ·rw [if_pos c15] at H
        have c15b0 : decide (t146 < 0) = true := decide_eq_true c15
        clear c15
        obtain rfl := Option.some.inj H
        have p142 : 0 ≤ (x5_1 : Int) := od (by first | (with_reducible assumption) | assumption)
        have q142 : x5_1 < (l1.length : Int) := od (by first | (with_reducible assumption) | assumption)
        obtain ⟨ad142, e142, u1_0, u1_1, u1_2, u1_3, u1_4, u1_5, u1_6, u1_7, u1_8, u1_9, u1_10, u1_11, u1_12, u1_13, u1_14, u1_15, u1_16, u1_17, u1_18, u1_19⟩ := ac_T54 HB.out HR1.out x5_1 p142 q142
        (try rw [← Nbq8.out] at u1_18)
        (try rw [← Nbq8.out] at u1_19)
        cases e142
        replace p142 := eq_true p142
        replace q142 := eq_true q142
        try go_wp2
        have n0_ := zd.mk (zh BK140.out)
        have n1_ := zd.mk (zb HB.out)
        clear BK140
        clear HB
        have BK140 := n0_
        have HB := n1_
        clear n0_ n1_
        have p143 : 0 ≤ (x5_1 : Int) := od (by first | (with_reducible assumption) | assumption)
        have q143 : x5_1 < (l1.length : Int) := od (by first | (with_reducible assumption) | assumption)
        obtain ⟨ad143, e143, u2_0, u2_1, u2_2, u2_3, u2_4, u2_5, u2_6, u2_7, u2_8, u2_9, u2_10, u2_11, u2_12, u2_13, u2_14, u2_15, u2_16, u2_17, u2_18, u2_19, v1_0, v1_1, v1_2, v1_3, v1_4, v1_5, v1_6, v1_7, v1_8, v1_9, v1_10, v1_11, v1_12, v1_13, v1_14, v1_15, v1_16, v1_17, v1_18, v1_19⟩ := ab_T54 HB.out HR1.out x5_1 p143 q143
        (try rw [← Nbq8.out] at u2_18)
        (try rw [← Nbq8.out] at u2_19)
        obtain rfl : ad142 = ad143 := (by injection e143)
        replace p143 := eq_true p143
        replace q143 := eq_true q143
        have p144 : 0 ≤ (x5_1 : Int) := od (by first | (with_reducible assumption) | assumption)
        have q144 : x5_1 < (l1.length : Int) := od (by first | (with_reducible assumption) | assumption)
        obtain ⟨ad144, e144, u3_0, u3_1, u3_2, u3_3, u3_4, u3_5, u3_6, u3_7, u3_8, u3_9, u3_10, u3_11, u3_12, u3_13, u3_14, u3_15, u3_16, u3_17, u3_18, u3_19, v2_0, v2_1, v2_2, v2_3, v2_4, v2_5, v2_6, v2_7, v2_8, v2_9, v2_10, v2_11, v2_12, v2_13, v2_14, v2_15, v2_16, v2_17, v2_18, v2_19⟩ := ab_T54 HB.out HR1.out x5_1 p144 q144
        (try rw [← Nbq8.out] at u3_18)
        (try rw [← Nbq8.out] at u3_19)
        obtain rfl : ad142 = ad144 := (by injection e144)
        replace p144 := eq_true p144
        replace q144 := eq_true q144
        have p145 : 0 ≤ (x5_1 : Int) := od (by first | (with_reducible assumption) | assumption)
        have q145 : x5_1 < (l1.length : Int) := od (by first | (with_reducible assumption) | assumption)
        obtain ⟨ad145, e145, u4_0, u4_1, u4_2, u4_3, u4_4, u4_5, u4_6, u4_7, u4_8, u4_9, u4_10, u4_11, u4_12, u4_13, u4_14, u4_15, u4_16, u4_17, u4_18, u4_19, v3_0, v3_1, v3_2, v3_3, v3_4, v3_5, v3_6, v3_7, v3_8, v3_9, v3_10, v3_11, v3_12, v3_13, v3_14, v3_15, v3_16, v3_17, v3_18, v3_19⟩ := ab_T54 HB.out HR1.out x5_1 p145 q145
        (try rw [← Nbq8.out] at u4_18)
        (try rw [← Nbq8.out] at u4_19)
        obtain rfl : ad142 = ad145 := (by injection e145)
        replace p145 := eq_true p145
        replace q145 := eq_true q145
        refine start_ (n := 23) (S := fun w' => w'.cell? ⟨gb140, 0, none⟩ = some (.int .i8 a0_0) ∧ w'.cell? ⟨gb140, 1, none⟩ = some (.int .i8 a0_1) ∧ w'.cell? ⟨gb140, 2, none⟩ = some (.bool a0_2) ∧ w'.cell? ⟨gb140, 3, none⟩ = some (.bool a0_3) ∧ EA w' (ad142.add ((x5_1).toNat * 20)) (rd_T54 l1 x5_1) ((rd_T54 l1 x5_1).f2.f1) (true) (EA w' (ad142.add ((x5_1).toNat * 20)) (rd_T54 l1 x5_1) ((rd_T54 l1 x5_1).f2.f1) (true) (EA0 w' (ad142.add ((x5_1).toNat * 20)) (rd_T54 l1 x5_1) ((rd_T54 l1 x5_1).f2.f1) (true)))) (ds := []) (fm 23 0) (by kernel_rfl) rfl rfl ⟨(zl BK140.out 0).trans rfl, (zl BK140.out 1).trans rfl, (zl BK140.out 2).trans rfl, (zl BK140.out 3).trans rfl, (bc HB.out v1_0), (bc HB.out v1_1), (bc HB.out v1_2), (bc HB.out v1_3), (bc HB.out v1_4), (bc HB.out v1_5), (bc HB.out v1_6), (bc HB.out v1_7), (bc HB.out v1_8), (bc HB.out v1_9), (bc HB.out v1_10), (bc HB.out v1_11), (bc HB.out v1_12), (bc HB.out v1_13), (bc HB.out v1_14), (bc HB.out v1_15), (bc HB.out v1_16), (bc HB.out v1_17), (by first | exact (bc HB.out v1_18) | (have h_ := (bc HB.out v1_18); rw [← Nbq8.out] at h_; exact h_)), (by first | exact (bc HB.out v1_19) | (have h_ := (bc HB.out v1_19); rw [← Nbq8.out] at h_; exact h_)), (bc HB.out v2_0), (bc HB.out v2_1), (bc HB.out v2_2), (bc HB.out v2_3), (bc HB.out v2_4), (bc HB.out v2_5), (bc HB.out v2_6), (bc HB.out v2_7), (bc HB.out v2_8), (bc HB.out v2_9), (bc HB.out v2_10), (bc HB.out v2_11), (bc HB.out v2_12), (bc HB.out v2_13), (bc HB.out v2_14), (bc HB.out v2_15), (bc HB.out v2_16), (bc HB.out v2_17), (by first | exact (bc HB.out v2_18) | (have h_ := (bc HB.out v2_18); rw [← Nbq8.out] at h_; exact h_)), (by first | exact (bc HB.out v2_19) | (have h_ := (bc HB.out v2_19); rw [← Nbq8.out] at h_; exact h_)), (bc HB.out v3_0), (bc HB.out v3_1), (bc HB.out v3_2), (bc HB.out v3_3), (bc HB.out v3_4), (bc HB.out v3_5), (bc HB.out v3_6), (bc HB.out v3_7), (bc HB.out v3_8), (bc HB.out v3_9), (bc HB.out v3_10), (bc HB.out v3_11), (bc HB.out v3_12), (bc HB.out v3_13), (bc HB.out v3_14), (bc HB.out v3_15), (bc HB.out v3_16), (bc HB.out v3_17), (by first | exact (bc HB.out v3_18) | (have h_ := (bc HB.out v3_18); rw [← Nbq8.out] at h_; exact h_)), (by first | exact (bc HB.out v3_19) | (have h_ := (bc HB.out v3_19); rw [← Nbq8.out] at h_; exact h_))⟩ (fun hHeld => ?_); refine zna spec_l03Plan.tab8 spec_l03Plan.bits8 (fun HT_ HW_ => ?_)
        generalize wr.drew = w16 at BK140 HB u2_0 u2_1 u2_10 u2_11 u2_12 u2_13 u2_14 u2_15 u2_16 u2_17 u2_18 u2_19 u2_2 u2_3 u2_4 u2_5 u2_6 u2_7 u2_8 u2_9 u3_0 u3_1 u3_10 u3_11 u3_12 u3_13 u3_14 u3_15 u3_16 u3_17 u3_18 u3_19 u3_2 u3_3 u3_4 u3_5 u3_6 u3_7 u3_8 u3_9 u4_0 u4_1 u4_10 u4_11 u4_12 u4_13 u4_14 u4_15 u4_16 u4_17 u4_18 u4_19 u4_2 u4_3 u4_4 u4_5 u4_6 u4_7 u4_8 u4_9 hHeld ⊢
        refine pb 0 25 (fm 23 1) rfl rfl HT_.out (by kernel_rfl) pq (by rfl) (by intro w'; go_simp; with_reducible rfl) (by simp only [Act.put, ea, eb, ec, zp, zq]; rfl) ?_
        refine pb 1 26 (fm 23 2) rfl rfl HT_.out (by kernel_rfl) pq (by rfl) (by intro w'; go_simp; with_reducible rfl) (by simp only [Act.put, ea, eb, ec, zp, zq]; rfl) ?_
        refine pb 2 27 (fm 23 3) rfl rfl HT_.out (by kernel_rfl) pq (by rfl) (by intro w'; go_simp; with_reducible rfl) (by simp only [Act.put, ea, eb, ec, zp, zq]; rfl) ?_
        refine pb 4 29 #[T, T, T, F, T, F, F, F, F, F, F, F, F, F, F, F, F, F, F, F, F, F, F] rfl rfl HT_.out (by kernel_rfl) pq (by rfl) (by intro w'; go_simp; with_reducible rfl) (by simp only [Act.put, ea, eb, ec, zp, zq]; rfl) ?_
        refine take_ (i := 3) (N := some 28) (v := ?_) (a' := ?_) (fm 23 5) rfl rfl (zaa HT_.out HW_.out (by kernel_rfl)) (fun _ _ _ h => h) (Or.inl ⟨by rfl, ?_⟩) hHeld ?_ ?_
        rotate_left
        ·rintro w' ⟨s0, s1, s2, s3, s4, s5, s6, s7, s8, s9, s10, s11, s12, s13, s14, s15, s16, s17, s18, s19, s20, s21, s22, s23, s24, s25, s26, s27, s28, s29, s30, s31, s32, s33, s34, s35, s36, s37, s38, s39, s40, s41, s42, s43, s44, s45, s46, s47, s48, s49, s50, s51, s52, s53, s54, s55, s56, s57, s58, s59, s60, s61, s62, s63⟩
         go_simp
         with_reducible rfl
        rotate_left
        ·simp only [Act.put, List.setIfInBounds_toArray, List.set_cons_zero, List.set_cons_succ, zp, zq]
         rfl
        refine pb 5 30 (fm 23 6) rfl rfl HT_.out (by kernel_rfl) pq (by rfl) (by intro w'; go_simp; with_reducible rfl) (by simp only [Act.put, ea, eb, ec, zp, zq]; rfl) ?_
        refine pb 6 31 (fm 23 7) rfl rfl HT_.out (by kernel_rfl) pq (by rfl) (by intro w'; go_simp; with_reducible rfl) (by simp only [Act.put, ea, eb, ec, zp, zq]; rfl) ?_
        refine pb 7 32 (fm 23 8) rfl rfl HT_.out (by kernel_rfl) pq (by rfl) (by intro w'; go_simp; with_reducible rfl) (by simp only [Act.put, ea, eb, ec, zp, zq]; rfl) ?_
        refine pb 8 33 (fm 23 9) rfl rfl HT_.out (by kernel_rfl) pq (by rfl) (by intro w'; go_simp; with_reducible rfl) (by simp only [Act.put, ea, eb, ec, zp, zq]; rfl) ?_
        refine pb 9 34 (fm 23 10) rfl rfl HT_.out (by kernel_rfl) pq (by rfl) (by intro w'; go_simp; with_reducible rfl) (by simp only [Act.put, ea, eb, ec, zp, zq]; rfl) ?_
        refine pb 11 36 #[T, T, T, T, T, T, T, T, T, T, F, T, F, F, F, F, F, F, F, F, F, F, F] rfl rfl HT_.out (by kernel_rfl) pq (by rfl) (by intro w'; go_simp; with_reducible rfl) (by simp only [Act.put, ea, eb, ec, zp, zq]; rfl) ?_
        refine take_ (i := 10) (N := some 35) (v := ?_) (a' := ?_) (fm 23 12) rfl rfl (zaa HT_.out HW_.out (by kernel_rfl)) (fun _ _ _ h => h) (Or.inl ⟨by rfl, ?_⟩) hHeld ?_ ?_
        rotate_left
        ·rintro w' ⟨s0, s1, s2, s3, s4, s5, s6, s7, s8, s9, s10, s11, s12, s13, s14, s15, s16, s17, s18, s19, s20, s21, s22, s23, s24, s25, s26, s27, s28, s29, s30, s31, s32, s33, s34, s35, s36, s37, s38, s39, s40, s41, s42, s43, s44, s45, s46, s47, s48, s49, s50, s51, s52, s53, s54, s55, s56, s57, s58, s59, s60, s61, s62, s63⟩
         go_simp
         with_reducible rfl
        rotate_left
        ·simp only [Act.put, List.setIfInBounds_toArray, List.set_cons_zero, List.set_cons_succ, zp, zq]
         rfl
        refine pb 12 37 (fm 23 13) rfl rfl HT_.out (by kernel_rfl) pq (by rfl) (by intro w'; go_simp; with_reducible rfl) (by simp only [Act.put, ea, eb, ec, zp, zq]; rfl) ?_
        refine pb 13 38 (fm 23 14) rfl rfl HT_.out (by kernel_rfl) pq (by rfl) (by intro w'; go_simp; with_reducible rfl) (by simp only [Act.put, ea, eb, ec, zp, zq]; rfl) ?_
        refine pb 14 39 (fm 23 15) rfl rfl HT_.out (by kernel_rfl) pq (by rfl) (by intro w'; go_simp; with_reducible rfl) (by simp only [Act.put, ea, eb, ec, zp, zq]; rfl) ?_
        refine pb 16 41 #[T, T, T, T, T, T, T, T, T, T, T, T, T, T, T, F, T, F, F, F, F, F, F] rfl rfl HT_.out (by kernel_rfl) pq (by rfl) (by intro w'; go_simp; with_reducible rfl) (by simp only [Act.put, ea, eb, ec, zp, zq]; rfl) ?_
        refine pb 17 42 #[T, T, T, T, T, T, T, T, T, T, T, T, T, T, T, F, T, T, F, F, F, F, F] rfl rfl HT_.out (by kernel_rfl) pq (by rfl) (by intro w'; go_simp; with_reducible rfl) (by simp only [Act.put, ea, eb, ec, zp, zq]; rfl) ?_
        refine pb 18 43 #[T, T, T, T, T, T, T, T, T, T, T, T, T, T, T, F, T, T, T, F, F, F, F] rfl rfl HT_.out (by kernel_rfl) pq (by rfl) (by intro w'; go_simp; with_reducible rfl) (by simp only [Act.put, ea, eb, ec, zp, zq]; rfl) ?_
        refine take_ (i := 15) (N := some 40) (v := ?_) (a' := ?_) (fm 23 19) rfl rfl (zaa HT_.out HW_.out (by kernel_rfl)) (fun _ _ _ h => h) (Or.inl ⟨by rfl, ?_⟩) hHeld ?_ ?_
        rotate_left
        ·rintro w' ⟨s0, s1, s2, s3, s4, s5, s6, s7, s8, s9, s10, s11, s12, s13, s14, s15, s16, s17, s18, s19, s20, s21, s22, s23, s24, s25, s26, s27, s28, s29, s30, s31, s32, s33, s34, s35, s36, s37, s38, s39, s40, s41, s42, s43, s44, s45, s46, s47, s48, s49, s50, s51, s52, s53, s54, s55, s56, s57, s58, s59, s60, s61, s62, s63⟩
         go_simp
         with_reducible rfl
        rotate_left
        ·simp only [Act.put, List.setIfInBounds_toArray, List.set_cons_zero, List.set_cons_succ, zp, zq]
         rfl
        refine take_ (i := 19) (N := some 44) (v := ?_) (a' := ?_) (fm 23 20) rfl rfl (zaa HT_.out HW_.out (by kernel_rfl)) (fun _ _ _ h => h) (Or.inl ⟨by rfl, ?_⟩) hHeld ?_ ?_
        rotate_left
        ·rintro w' ⟨s0, s1, s2, s3, s4, s5, s6, s7, s8, s9, s10, s11, s12, s13, s14, s15, s16, s17, s18, s19, s20, s21, s22, s23, s24, s25, s26, s27, s28, s29, s30, s31, s32, s33, s34, s35, s36, s37, s38, s39, s40, s41, s42, s43, s44, s45, s46, s47, s48, s49, s50, s51, s52, s53, s54, s55, s56, s57, s58, s59, s60, s61, s62, s63⟩
         go_simp
         with_reducible rfl
        rotate_left
        ·simp only [Act.put, List.setIfInBounds_toArray, List.set_cons_zero, List.set_cons_succ, zp, zq]
         rfl
        refine one_ (i := 20) (N := some 45) (fm 23 21) rfl rfl (one_of HT_.out (by kernel_rfl)) (by decide) (fun K hK => ?_)
        refine goes_ Try.func54 (by kernel_rfl) rfl #[.agg #[.int .i8 a0_0, .int .i8 a0_1, .bool a0_2, .bool a0_3], .agg #[.int .i8 ((rd_T54 l1 x5_1).f2.f0), .bool ((rd_T54 l1 x5_1).f2.f1)]] (by rfl) rfl rfl (by (try simp only [List.map_toArray, List.map_cons, List.map_nil]); first | done | rfl | (simp only [List.length_drop, List.length_take]; rfl)) ?_
        with_reducible refine (spec_l03Find.calls k1 a0_0 a0_1 a0_2 a0_3 ((rd_T54 l1 x5_1).f2.f0) ((rd_T54 l1 x5_1).f2.f1) t146 _ A14.out).mono ?_
        rintro e w17 ⟨rfl, hb⟩
        refine ⟨_, rfl, ?_⟩
        have n0_ := zd.mk (zj (by (with_reducible repeat (first | refine zf ?_ _ | refine zh ?_ | refine zg ?_ _)); exact BK140.out) hb)
        have n1_ := zd.mk (zk (by repeat (first | (with_reducible first | exact HB.out | apply zc | apply za | apply zb | refine ze ?_ GE140.out) | exact HB.out)) hb)
        clear BK140
        clear HB
        have BK140 := n0_
        have HB := n1_
        clear n0_ n1_
        (try clear hb)
        (try clear hb2)
        (try clear hk)
        (try clear hi)
        refine hK.out _ _ ⟨(zl BK140.out 0).trans rfl, (zl BK140.out 1).trans rfl, (zl BK140.out 2).trans rfl, (zl BK140.out 3).trans rfl, (bc HB.out v1_0), (bc HB.out v1_1), (bc HB.out v1_2), (bc HB.out v1_3), (bc HB.out v1_4), (bc HB.out v1_5), (bc HB.out v1_6), (bc HB.out v1_7), (bc HB.out v1_8), (bc HB.out v1_9), (bc HB.out v1_10), (bc HB.out v1_11), (bc HB.out v1_12), (bc HB.out v1_13), (bc HB.out v1_14), (bc HB.out v1_15), (bc HB.out v1_16), (bc HB.out v1_17), (by first | exact (bc HB.out v1_18) | (have h_ := (bc HB.out v1_18); rw [← Nbq8.out] at h_; exact h_)), (by first | exact (bc HB.out v1_19) | (have h_ := (bc HB.out v1_19); rw [← Nbq8.out] at h_; exact h_)), (bc HB.out v2_0), (bc HB.out v2_1), (bc HB.out v2_2), (bc HB.out v2_3), (bc HB.out v2_4), (bc HB.out v2_5), (bc HB.out v2_6), (bc HB.out v2_7), (bc HB.out v2_8), (bc HB.out v2_9), (bc HB.out v2_10), (bc HB.out v2_11), (bc HB.out v2_12), (bc HB.out v2_13), (bc HB.out v2_14), (bc HB.out v2_15), (bc HB.out v2_16), (bc HB.out v2_17), (by first | exact (bc HB.out v2_18) | (have h_ := (bc HB.out v2_18); rw [← Nbq8.out] at h_; exact h_)), (by first | exact (bc HB.out v2_19) | (have h_ := (bc HB.out v2_19); rw [← Nbq8.out] at h_; exact h_)), (bc HB.out v3_0), (bc HB.out v3_1), (bc HB.out v3_2), (bc HB.out v3_3), (bc HB.out v3_4), (bc HB.out v3_5), (bc HB.out v3_6), (bc HB.out v3_7), (bc HB.out v3_8), (bc HB.out v3_9), (bc HB.out v3_10), (bc HB.out v3_11), (bc HB.out v3_12), (bc HB.out v3_13), (bc HB.out v3_14), (bc HB.out v3_15), (bc HB.out v3_16), (bc HB.out v3_17), (by first | exact (bc HB.out v3_18) | (have h_ := (bc HB.out v3_18); rw [← Nbq8.out] at h_; exact h_)), (by first | exact (bc HB.out v3_19) | (have h_ := (bc HB.out v3_19); rw [← Nbq8.out] at h_; exact h_))⟩ (fun hHeld => ?_)
        clear hK K
        refine norm_ (a' := ?_) ?_ ?_
        rotate_left
        ·show Act.put _ (some 45) _ = _
         simp only [Act.put, List.setIfInBounds_toArray, List.set_cons_zero, List.set_cons_succ, zp, zq]
         rfl
        refine pb 21 46 (fm 23 22) rfl rfl HT_.out (by kernel_rfl) pq (by rfl) (by intro w'; go_simp; with_reducible rfl) (by simp only [Act.put, ea, eb, ec, zp, zq]; rfl) ?_
        refine pb 22 47 (fm 23 23) rfl rfl HT_.out (by kernel_rfl) pq (by rfl) (by intro w'; go_simp; with_reducible rfl) (by simp only [Act.put, ea, eb, ec, zp, zq]; rfl) ?_
        refine done_ (done_of HT_.out (by kernel_rfl)) ?_
        try go_wp2
        go_ret
        exact ⟨by first | rfl | (simp [errW_none, errW_some] <;> rfl) | (simp [*, errW_none, errW_some] <;> rfl), by repeat (first | (with_reducible first | exact HB.out | apply zc | apply za | apply zb | refine ze ?_ GE140.out) | exact HB.out)⟩
       rw [if_neg c15] at H
       have c15b0 : decide (t146 < 0) = false := decide_eq_false c15
       clear c15
       have H' := zd.mk H
       clear H
       have p142 : 0 ≤ (x5_1 : Int) := od (by first | (with_reducible assumption) | assumption)
       have q142 : x5_1 < (l1.length : Int) := od (by first | (with_reducible assumption) | assumption)
       obtain ⟨ad142, e142, u1_0, u1_1, u1_2, u1_3, u1_4, u1_5, u1_6, u1_7, u1_8, u1_9, u1_10, u1_11, u1_12, u1_13, u1_14, u1_15, u1_16, u1_17, u1_18, u1_19⟩ := ac_T54 HB.out HR1.out x5_1 p142 q142
       (try rw [← Nbq8.out] at u1_18)
       (try rw [← Nbq8.out] at u1_19)
       cases e142
       replace p142 := eq_true p142
       replace q142 := eq_true q142
       try go_wp2
       have n0_ := zd.mk (zh BK140.out)
       have n1_ := zd.mk (zb HB.out)
       clear BK140
       clear HB
       have BK140 := n0_
       have HB := n1_
       clear n0_ n1_
       have p143 : 0 ≤ (x5_1 : Int) := od (by first | (with_reducible assumption) | assumption)
       have q143 : x5_1 < (l1.length : Int) := od (by first | (with_reducible assumption) | assumption)
       obtain ⟨ad143, e143, u2_0, u2_1, u2_2, u2_3, u2_4, u2_5, u2_6, u2_7, u2_8, u2_9, u2_10, u2_11, u2_12, u2_13, u2_14, u2_15, u2_16, u2_17, u2_18, u2_19, v1_0, v1_1, v1_2, v1_3, v1_4, v1_5, v1_6, v1_7, v1_8, v1_9, v1_10, v1_11, v1_12, v1_13, v1_14, v1_15, v1_16, v1_17, v1_18, v1_19⟩ := ab_T54 HB.out HR1.out x5_1 p143 q143
       (try rw [← Nbq8.out] at u2_18)
       (try rw [← Nbq8.out] at u2_19)
       obtain rfl : ad142 = ad143 := (by injection e143)
       replace p143 := eq_true p143
       replace q143 := eq_true q143
       have p144 : 0 ≤ (x5_1 : Int) := od (by first | (with_reducible assumption) | assumption)
       have q144 : x5_1 < (l1.length : Int) := od (by first | (with_reducible assumption) | assumption)
       obtain ⟨ad144, e144, u3_0, u3_1, u3_2, u3_3, u3_4, u3_5, u3_6, u3_7, u3_8, u3_9, u3_10, u3_11, u3_12, u3_13, u3_14, u3_15, u3_16, u3_17, u3_18, u3_19, v2_0, v2_1, v2_2, v2_3, v2_4, v2_5, v2_6, v2_7, v2_8, v2_9, v2_10, v2_11, v2_12, v2_13, v2_14, v2_15, v2_16, v2_17, v2_18, v2_19⟩ := ab_T54 HB.out HR1.out x5_1 p144 q144
       (try rw [← Nbq8.out] at u3_18)
       (try rw [← Nbq8.out] at u3_19)
       obtain rfl : ad142 = ad144 := (by injection e144)
       replace p144 := eq_true p144
       replace q144 := eq_true q144
       have p145 : 0 ≤ (x5_1 : Int) := od (by first | (with_reducible assumption) | assumption)
       have q145 : x5_1 < (l1.length : Int) := od (by first | (with_reducible assumption) | assumption)
       obtain ⟨ad145, e145, u4_0, u4_1, u4_2, u4_3, u4_4, u4_5, u4_6, u4_7, u4_8, u4_9, u4_10, u4_11, u4_12, u4_13, u4_14, u4_15, u4_16, u4_17, u4_18, u4_19, v3_0, v3_1, v3_2, v3_3, v3_4, v3_5, v3_6, v3_7, v3_8, v3_9, v3_10, v3_11, v3_12, v3_13, v3_14, v3_15, v3_16, v3_17, v3_18, v3_19⟩ := ab_T54 HB.out HR1.out x5_1 p145 q145
       (try rw [← Nbq8.out] at u4_18)
       (try rw [← Nbq8.out] at u4_19)
       obtain rfl : ad142 = ad145 := (by injection e145)
       replace p145 := eq_true p145
       replace q145 := eq_true q145
       refine start_ (n := 23) (S := fun w' => w'.cell? ⟨gb140, 0, none⟩ = some (.int .i8 a0_0) ∧ w'.cell? ⟨gb140, 1, none⟩ = some (.int .i8 a0_1) ∧ w'.cell? ⟨gb140, 2, none⟩ = some (.bool a0_2) ∧ w'.cell? ⟨gb140, 3, none⟩ = some (.bool a0_3) ∧ EA w' (ad142.add ((x5_1).toNat * 20)) (rd_T54 l1 x5_1) ((rd_T54 l1 x5_1).f2.f1) (true) (EA w' (ad142.add ((x5_1).toNat * 20)) (rd_T54 l1 x5_1) ((rd_T54 l1 x5_1).f2.f1) (true) (EA0 w' (ad142.add ((x5_1).toNat * 20)) (rd_T54 l1 x5_1) ((rd_T54 l1 x5_1).f2.f1) (true)))) (ds := []) (fm 23 0) (by kernel_rfl) rfl rfl ⟨(zl BK140.out 0).trans rfl, (zl BK140.out 1).trans rfl, (zl BK140.out 2).trans rfl, (zl BK140.out 3).trans rfl, (bc HB.out v1_0), (bc HB.out v1_1), (bc HB.out v1_2), (bc HB.out v1_3), (bc HB.out v1_4), (bc HB.out v1_5), (bc HB.out v1_6), (bc HB.out v1_7), (bc HB.out v1_8), (bc HB.out v1_9), (bc HB.out v1_10), (bc HB.out v1_11), (bc HB.out v1_12), (bc HB.out v1_13), (bc HB.out v1_14), (bc HB.out v1_15), (bc HB.out v1_16), (bc HB.out v1_17), (by first | exact (bc HB.out v1_18) | (have h_ := (bc HB.out v1_18); rw [← Nbq8.out] at h_; exact h_)), (by first | exact (bc HB.out v1_19) | (have h_ := (bc HB.out v1_19); rw [← Nbq8.out] at h_; exact h_)), (bc HB.out v2_0), (bc HB.out v2_1), (bc HB.out v2_2), (bc HB.out v2_3), (bc HB.out v2_4), (bc HB.out v2_5), (bc HB.out v2_6), (bc HB.out v2_7), (bc HB.out v2_8), (bc HB.out v2_9), (bc HB.out v2_10), (bc HB.out v2_11), (bc HB.out v2_12), (bc HB.out v2_13), (bc HB.out v2_14), (bc HB.out v2_15), (bc HB.out v2_16), (bc HB.out v2_17), (by first | exact (bc HB.out v2_18) | (have h_ := (bc HB.out v2_18); rw [← Nbq8.out] at h_; exact h_)), (by first | exact (bc HB.out v2_19) | (have h_ := (bc HB.out v2_19); rw [← Nbq8.out] at h_; exact h_)), (bc HB.out v3_0), (bc HB.out v3_1), (bc HB.out v3_2), (bc HB.out v3_3), (bc HB.out v3_4), (bc HB.out v3_5), (bc HB.out v3_6), (bc HB.out v3_7), (bc HB.out v3_8), (bc HB.out v3_9), (bc HB.out v3_10), (bc HB.out v3_11), (bc HB.out v3_12), (bc HB.out v3_13), (bc HB.out v3_14), (bc HB.out v3_15), (bc HB.out v3_16), (bc HB.out v3_17), (by first | exact (bc HB.out v3_18) | (have h_ := (bc HB.out v3_18); rw [← Nbq8.out] at h_; exact h_)), (by first | exact (bc HB.out v3_19) | (have h_ := (bc HB.out v3_19); rw [← Nbq8.out] at h_; exact h_))⟩ (fun hHeld => ?_); refine zna spec_l03Plan.tab8 spec_l03Plan.bits8 (fun HT_ HW_ => ?_)
       generalize wr.drew = w18 at BK140 HB u2_0 u2_1 u2_10 u2_11 u2_12 u2_13 u2_14 u2_15 u2_16 u2_17 u2_18 u2_19 u2_2 u2_3 u2_4 u2_5 u2_6 u2_7 u2_8 u2_9 u3_0 u3_1 u3_10 u3_11 u3_12 u3_13 u3_14 u3_15 u3_16 u3_17 u3_18 u3_19 u3_2 u3_3 u3_4 u3_5 u3_6 u3_7 u3_8 u3_9 u4_0 u4_1 u4_10 u4_11 u4_12 u4_13 u4_14 u4_15 u4_16 u4_17 u4_18 u4_19 u4_2 u4_3 u4_4 u4_5 u4_6 u4_7 u4_8 u4_9 hHeld ⊢
       refine pb 0 25 (fm 23 1) rfl rfl HT_.out (by kernel_rfl) pq (by rfl) (by intro w'; go_simp; with_reducible rfl) (by simp only [Act.put, ea, eb, ec, zp, zq]; rfl) ?_
       refine pb 1 26 (fm 23 2) rfl rfl HT_.out (by kernel_rfl) pq (by rfl) (by intro w'; go_simp; with_reducible rfl) (by simp only [Act.put, ea, eb, ec, zp, zq]; rfl) ?_
       refine pb 2 27 (fm 23 3) rfl rfl HT_.out (by kernel_rfl) pq (by rfl) (by intro w'; go_simp; with_reducible rfl) (by simp only [Act.put, ea, eb, ec, zp, zq]; rfl) ?_
       refine pb 4 29 #[T, T, T, F, T, F, F, F, F, F, F, F, F, F, F, F, F, F, F, F, F, F, F] rfl rfl HT_.out (by kernel_rfl) pq (by rfl) (by intro w'; go_simp; with_reducible rfl) (by simp only [Act.put, ea, eb, ec, zp, zq]; rfl) ?_
       refine take_ (i := 3) (N := some 28) (v := ?_) (a' := ?_) (fm 23 5) rfl rfl (zaa HT_.out HW_.out (by kernel_rfl)) (fun _ _ _ h => h) (Or.inl ⟨by rfl, ?_⟩) hHeld ?_ ?_
       rotate_left
       ·rintro w' ⟨s0, s1, s2, s3, s4, s5, s6, s7, s8, s9, s10, s11, s12, s13, s14, s15, s16, s17, s18, s19, s20, s21, s22, s23, s24, s25, s26, s27, s28, s29, s30, s31, s32, s33, s34, s35, s36, s37, s38, s39, s40, s41, s42, s43, s44, s45, s46, s47, s48, s49, s50, s51, s52, s53, s54, s55, s56, s57, s58, s59, s60, s61, s62, s63⟩
        go_simp
        with_reducible rfl
       rotate_left
       ·simp only [Act.put, List.setIfInBounds_toArray, List.set_cons_zero, List.set_cons_succ, zp, zq]
        rfl
       refine pb 5 30 (fm 23 6) rfl rfl HT_.out (by kernel_rfl) pq (by rfl) (by intro w'; go_simp; with_reducible rfl) (by simp only [Act.put, ea, eb, ec, zp, zq]; rfl) ?_
       refine pb 6 31 (fm 23 7) rfl rfl HT_.out (by kernel_rfl) pq (by rfl) (by intro w'; go_simp; with_reducible rfl) (by simp only [Act.put, ea, eb, ec, zp, zq]; rfl) ?_
       refine pb 7 32 (fm 23 8) rfl rfl HT_.out (by kernel_rfl) pq (by rfl) (by intro w'; go_simp; with_reducible rfl) (by simp only [Act.put, ea, eb, ec, zp, zq]; rfl) ?_
       refine pb 8 33 (fm 23 9) rfl rfl HT_.out (by kernel_rfl) pq (by rfl) (by intro w'; go_simp; with_reducible rfl) (by simp only [Act.put, ea, eb, ec, zp, zq]; rfl) ?_
       refine pb 9 34 (fm 23 10) rfl rfl HT_.out (by kernel_rfl) pq (by rfl) (by intro w'; go_simp; with_reducible rfl) (by simp only [Act.put, ea, eb, ec, zp, zq]; rfl) ?_
       refine pb 11 36 #[T, T, T, T, T, T, T, T, T, T, F, T, F, F, F, F, F, F, F, F, F, F, F] rfl rfl HT_.out (by kernel_rfl) pq (by rfl) (by intro w'; go_simp; with_reducible rfl) (by simp only [Act.put, ea, eb, ec, zp, zq]; rfl) ?_
       refine take_ (i := 10) (N := some 35) (v := ?_) (a' := ?_) (fm 23 12) rfl rfl (zaa HT_.out HW_.out (by kernel_rfl)) (fun _ _ _ h => h) (Or.inl ⟨by rfl, ?_⟩) hHeld ?_ ?_
       rotate_left
       ·rintro w' ⟨s0, s1, s2, s3, s4, s5, s6, s7, s8, s9, s10, s11, s12, s13, s14, s15, s16, s17, s18, s19, s20, s21, s22, s23, s24, s25, s26, s27, s28, s29, s30, s31, s32, s33, s34, s35, s36, s37, s38, s39, s40, s41, s42, s43, s44, s45, s46, s47, s48, s49, s50, s51, s52, s53, s54, s55, s56, s57, s58, s59, s60, s61, s62, s63⟩
        go_simp
        with_reducible rfl
       rotate_left
       ·simp only [Act.put, List.setIfInBounds_toArray, List.set_cons_zero, List.set_cons_succ, zp, zq]
        rfl
       refine pb 12 37 (fm 23 13) rfl rfl HT_.out (by kernel_rfl) pq (by rfl) (by intro w'; go_simp; with_reducible rfl) (by simp only [Act.put, ea, eb, ec, zp, zq]; rfl) ?_
       refine pb 13 38 (fm 23 14) rfl rfl HT_.out (by kernel_rfl) pq (by rfl) (by intro w'; go_simp; with_reducible rfl) (by simp only [Act.put, ea, eb, ec, zp, zq]; rfl) ?_
       refine pb 14 39 (fm 23 15) rfl rfl HT_.out (by kernel_rfl) pq (by rfl) (by intro w'; go_simp; with_reducible rfl) (by simp only [Act.put, ea, eb, ec, zp, zq]; rfl) ?_
       refine pb 16 41 #[T, T, T, T, T, T, T, T, T, T, T, T, T, T, T, F, T, F, F, F, F, F, F] rfl rfl HT_.out (by kernel_rfl) pq (by rfl) (by intro w'; go_simp; with_reducible rfl) (by simp only [Act.put, ea, eb, ec, zp, zq]; rfl) ?_
       refine pb 17 42 #[T, T, T, T, T, T, T, T, T, T, T, T, T, T, T, F, T, T, F, F, F, F, F] rfl rfl HT_.out (by kernel_rfl) pq (by rfl) (by intro w'; go_simp; with_reducible rfl) (by simp only [Act.put, ea, eb, ec, zp, zq]; rfl) ?_
       refine pb 18 43 #[T, T, T, T, T, T, T, T, T, T, T, T, T, T, T, F, T, T, T, F, F, F, F] rfl rfl HT_.out (by kernel_rfl) pq (by rfl) (by intro w'; go_simp; with_reducible rfl) (by simp only [Act.put, ea, eb, ec, zp, zq]; rfl) ?_
       refine take_ (i := 15) (N := some 40) (v := ?_) (a' := ?_) (fm 23 19) rfl rfl (zaa HT_.out HW_.out (by kernel_rfl)) (fun _ _ _ h => h) (Or.inl ⟨by rfl, ?_⟩) hHeld ?_ ?_
       rotate_left
       ·rintro w' ⟨s0, s1, s2, s3, s4, s5, s6, s7, s8, s9, s10, s11, s12, s13, s14, s15, s16, s17, s18, s19, s20, s21, s22, s23, s24, s25, s26, s27, s28, s29, s30, s31, s32, s33, s34, s35, s36, s37, s38, s39, s40, s41, s42, s43, s44, s45, s46, s47, s48, s49, s50, s51, s52, s53, s54, s55, s56, s57, s58, s59, s60, s61, s62, s63⟩
        go_simp
        with_reducible rfl
       rotate_left
       ·simp only [Act.put, List.setIfInBounds_toArray, List.set_cons_zero, List.set_cons_succ, zp, zq]
        rfl
       refine take_ (i := 19) (N := some 44) (v := ?_) (a' := ?_) (fm 23 20) rfl rfl (zaa HT_.out HW_.out (by kernel_rfl)) (fun _ _ _ h => h) (Or.inl ⟨by rfl, ?_⟩) hHeld ?_ ?_
       rotate_left
       ·rintro w' ⟨s0, s1, s2, s3, s4, s5, s6, s7, s8, s9, s10, s11, s12, s13, s14, s15, s16, s17, s18, s19, s20, s21, s22, s23, s24, s25, s26, s27, s28, s29, s30, s31, s32, s33, s34, s35, s36, s37, s38, s39, s40, s41, s42, s43, s44, s45, s46, s47, s48, s49, s50, s51, s52, s53, s54, s55, s56, s57, s58, s59, s60, s61, s62, s63⟩
        go_simp
        with_reducible rfl
       rotate_left
       ·simp only [Act.put, List.setIfInBounds_toArray, List.set_cons_zero, List.set_cons_succ, zp, zq]
        rfl
       refine one_ (i := 20) (N := some 45) (fm 23 21) rfl rfl (one_of HT_.out (by kernel_rfl)) (by decide) (fun K hK => ?_)
       refine goes_ Try.func54 (by kernel_rfl) rfl #[.agg #[.int .i8 a0_0, .int .i8 a0_1, .bool a0_2, .bool a0_3], .agg #[.int .i8 ((rd_T54 l1 x5_1).f2.f0), .bool ((rd_T54 l1 x5_1).f2.f1)]] (by rfl) rfl rfl (by (try simp only [List.map_toArray, List.map_cons, List.map_nil]); first | done | rfl | (simp only [List.length_drop, List.length_take]; rfl)) ?_
       with_reducible refine (spec_l03Find.calls k1 a0_0 a0_1 a0_2 a0_3 ((rd_T54 l1 x5_1).f2.f0) ((rd_T54 l1 x5_1).f2.f1) t146 _ A14.out).mono ?_
       rintro e w19 ⟨rfl, hb⟩
       refine ⟨_, rfl, ?_⟩
       have n0_ := zd.mk (zj (by (with_reducible repeat (first | refine zf ?_ _ | refine zh ?_ | refine zg ?_ _)); exact BK140.out) hb)
       have n1_ := zd.mk (zk (by repeat (first | (with_reducible first | exact HB.out | apply zc | apply za | apply zb | refine ze ?_ GE140.out) | exact HB.out)) hb)
       clear BK140
       clear HB
       have BK140 := n0_
       have HB := n1_
       clear n0_ n1_
       (try clear hb)
       (try clear hb2)
       (try clear hk)
       (try clear hi)
       refine hK.out _ _ ⟨(zl BK140.out 0).trans rfl, (zl BK140.out 1).trans rfl, (zl BK140.out 2).trans rfl, (zl BK140.out 3).trans rfl, (bc HB.out v1_0), (bc HB.out v1_1), (bc HB.out v1_2), (bc HB.out v1_3), (bc HB.out v1_4), (bc HB.out v1_5), (bc HB.out v1_6), (bc HB.out v1_7), (bc HB.out v1_8), (bc HB.out v1_9), (bc HB.out v1_10), (bc HB.out v1_11), (bc HB.out v1_12), (bc HB.out v1_13), (bc HB.out v1_14), (bc HB.out v1_15), (bc HB.out v1_16), (bc HB.out v1_17), (by first | exact (bc HB.out v1_18) | (have h_ := (bc HB.out v1_18); rw [← Nbq8.out] at h_; exact h_)), (by first | exact (bc HB.out v1_19) | (have h_ := (bc HB.out v1_19); rw [← Nbq8.out] at h_; exact h_)), (bc HB.out v2_0), (bc HB.out v2_1), (bc HB.out v2_2), (bc HB.out v2_3), (bc HB.out v2_4), (bc HB.out v2_5), (bc HB.out v2_6), (bc HB.out v2_7), (bc HB.out v2_8), (bc HB.out v2_9), (bc HB.out v2_10), (bc HB.out v2_11), (bc HB.out v2_12), (bc HB.out v2_13), (bc HB.out v2_14), (bc HB.out v2_15), (bc HB.out v2_16), (bc HB.out v2_17), (by first | exact (bc HB.out v2_18) | (have h_ := (bc HB.out v2_18); rw [← Nbq8.out] at h_; exact h_)), (by first | exact (bc HB.out v2_19) | (have h_ := (bc HB.out v2_19); rw [← Nbq8.out] at h_; exact h_)), (bc HB.out v3_0), (bc HB.out v3_1), (bc HB.out v3_2), (bc HB.out v3_3), (bc HB.out v3_4), (bc HB.out v3_5), (bc HB.out v3_6), (bc HB.out v3_7), (bc HB.out v3_8), (bc HB.out v3_9), (bc HB.out v3_10), (bc HB.out v3_11), (bc HB.out v3_12), (bc HB.out v3_13), (bc HB.out v3_14), (bc HB.out v3_15), (bc HB.out v3_16), (bc HB.out v3_17), (by first | exact (bc HB.out v3_18) | (have h_ := (bc HB.out v3_18); rw [← Nbq8.out] at h_; exact h_)), (by first | exact (bc HB.out v3_19) | (have h_ := (bc HB.out v3_19); rw [← Nbq8.out] at h_; exact h_))⟩ (fun hHeld => ?_)
       clear hK K
       refine norm_ (a' := ?_) ?_ ?_
       rotate_left
       ·show Act.put _ (some 45) _ = _
        simp only [Act.put, List.setIfInBounds_toArray, List.set_cons_zero, List.set_cons_succ, zp, zq]
        rfl
       refine pb 21 46 (fm 23 22) rfl rfl HT_.out (by kernel_rfl) pq (by rfl) (by intro w'; go_simp; with_reducible rfl) (by simp only [Act.put, ea, eb, ec, zp, zq]; rfl) ?_
       refine pb 22 47 (fm 23 23) rfl rfl HT_.out (by kernel_rfl) pq (by rfl) (by intro w'; go_simp; with_reducible rfl) (by simp only [Act.put, ea, eb, ec, zp, zq]; rfl) ?_
       refine done_ (done_of HT_.out (by kernel_rfl)) ?_
       try go_wp2
       go_roundg k1
       case measure => have := HK1.out; omega
       case rel => exact ⟨(wrap64 (x5_1 + 1)), (by first | rfl | (simp; done) | (simp [*]; done)), H', ⟨by have := HK1.out; omega⟩, ⟨by (with_reducible repeat (first | refine zf ?_ _ | refine zh ?_ | refine zg ?_ _)); exact BK140.out⟩, ⟨by repeat (first | (with_reducible first | exact HB.out | apply zc | apply za | apply zb | refine ze ?_ GE140.out) | exact HB.out)⟩⟩
      replace c9 := Bool.eq_false_iff.mpr c9
      subst c9
      have H1 : (if (((rd_T54 l1 x5_1).f0.f0) == 0 && (((rd_T54 l1 x5_1).f0.f1) == 0 && (((rd_T54 l1 x5_1).f0.f2) == 0 && (((rd_T54 l1 x5_1).f0.f3) == 0 && (((rd_T54 l1 x5_1).f0.f4) == 0 && (((rd_T54 l1 x5_1).f0.f5) == 0 && (((rd_T54 l1 x5_1).f0.f6) == 0 && (((rd_T54 l1 x5_1).f0.f7) == 0 && (((rd_T54 l1 x5_1).f0.f8) == 0 && (((rd_T54 l1 x5_1).f0.f9) == 0 && (((rd_T54 l1 x5_1).f0.f10) == 0 && (((rd_T54 l1 x5_1).f0.f11) == 0 && (((rd_T54 l1 x5_1).f0.f12) == 0 && (((rd_T54 l1 x5_1).f0.f13) == 0)))))))))))))) = true then (spec_l03Plan.j1 k1 l1 x5_1 true a0_0 a0_1 a0_2 a0_3) else ((spec_l03Weighing.f k1 a0_0 a0_1 a0_2 a0_3 ((rd_T54 l1 x5_1).f0.f0) ((rd_T54 l1 x5_1).f0.f1) ((rd_T54 l1 x5_1).f0.f2) ((rd_T54 l1 x5_1).f0.f3) ((rd_T54 l1 x5_1).f0.f4) ((rd_T54 l1 x5_1).f0.f5) ((rd_T54 l1 x5_1).f0.f6) ((rd_T54 l1 x5_1).f0.f7) ((rd_T54 l1 x5_1).f0.f8) ((rd_T54 l1 x5_1).f0.f9) ((rd_T54 l1 x5_1).f0.f10) ((rd_T54 l1 x5_1).f0.f11) ((rd_T54 l1 x5_1).f0.f12) ((rd_T54 l1 x5_1).f0.f13)).bind fun t149 => (if t149 = true then (spec_l03Plan.j1 k1 l1 x5_1 (!(((rd_T54 l1 x5_1).f2.f0) == 0) || (((rd_T54 l1 x5_1).f2.f1))) a0_0 a0_1 a0_2 a0_3) else (spec_l03Plan.j1 k1 l1 x5_1 true a0_0 a0_1 a0_2 a0_3)))) = some r := by rw [if_neg (show ¬ (false = true) by decide)] at H; exact H
      clear H
      have H := H1
      clear H1
      have HC20 := zd.mk H
      clear H
      have p142 : 0 ≤ (x5_1 : Int) := od (by first | (with_reducible assumption) | assumption)
      have q142 : x5_1 < (l1.length : Int) := od (by first | (with_reducible assumption) | assumption)
      obtain ⟨ad142, e142, u1_0, u1_1, u1_2, u1_3, u1_4, u1_5, u1_6, u1_7, u1_8, u1_9, u1_10, u1_11, u1_12, u1_13, u1_14, u1_15, u1_16, u1_17, u1_18, u1_19⟩ := ac_T54 HB.out HR1.out x5_1 p142 q142
      (try rw [← Nbq8.out] at u1_18)
      (try rw [← Nbq8.out] at u1_19)
      cases e142
      replace p142 := eq_true p142
      replace q142 := eq_true q142
      go_upto_region 10 with (fail)
      go_cut [70] (fun v70 wc => ∃ (kq : Nat) (x70_19 : Bool), v70 = .bool x70_19 ∧ zd (spec_l03Plan.j1 kq l1 x5_1 x70_19 a0_0 a0_1 a0_2 a0_3 = some r) ∧ zd (kq ≤ k1) ∧ zd (wc.heap[gb140]? = some (.cells #[.int .i8 a0_0, .int .i8 a0_1, .bool a0_2, .bool a0_3] 29 (0, 0))) ∧ zd (Below w.heap.size w wc))
      case first =>
       have H := HC20.out
       clear HC20
       by_cases c21 : (((rd_T54 l1 x5_1).f0.f0) == 0 && (((rd_T54 l1 x5_1).f0.f1) == 0 && (((rd_T54 l1 x5_1).f0.f2) == 0 && (((rd_T54 l1 x5_1).f0.f3) == 0 && (((rd_T54 l1 x5_1).f0.f4) == 0 && (((rd_T54 l1 x5_1).f0.f5) == 0 && (((rd_T54 l1 x5_1).f0.f6) == 0 && (((rd_T54 l1 x5_1).f0.f7) == 0 && (((rd_T54 l1 x5_1).f0.f8) == 0 && (((rd_T54 l1 x5_1).f0.f9) == 0 && (((rd_T54 l1 x5_1).f0.f10) == 0 && (((rd_T54 l1 x5_1).f0.f11) == 0 && (((rd_T54 l1 x5_1).f0.f12) == 0 && (((rd_T54 l1 x5_1).f0.f13) == 0)))))))))))))) = true
       ·rw [if_pos c21] at H
        have c21b0 : (((rd_T54 l1 x5_1).f0.f0) == 0 && (((rd_T54 l1 x5_1).f0.f1) == 0 && (((rd_T54 l1 x5_1).f0.f2) == 0 && (((rd_T54 l1 x5_1).f0.f3) == 0 && (((rd_T54 l1 x5_1).f0.f4) == 0 && (((rd_T54 l1 x5_1).f0.f5) == 0 && (((rd_T54 l1 x5_1).f0.f6) == 0 && (((rd_T54 l1 x5_1).f0.f7) == 0 && (((rd_T54 l1 x5_1).f0.f8) == 0 && (((rd_T54 l1 x5_1).f0.f9) == 0 && (((rd_T54 l1 x5_1).f0.f10) == 0 && (((rd_T54 l1 x5_1).f0.f11) == 0 && (((rd_T54 l1 x5_1).f0.f12) == 0 && (((rd_T54 l1 x5_1).f0.f13) == 0)))))))))))))) = true := c21
        (try (have c21b1 : decide (((rd_T54 l1 x5_1).f0.f0) = 0 && (((rd_T54 l1 x5_1).f0.f1) == 0 && (((rd_T54 l1 x5_1).f0.f2) == 0 && (((rd_T54 l1 x5_1).f0.f3) == 0 && (((rd_T54 l1 x5_1).f0.f4) == 0 && (((rd_T54 l1 x5_1).f0.f5) == 0 && (((rd_T54 l1 x5_1).f0.f6) == 0 && (((rd_T54 l1 x5_1).f0.f7) == 0 && (((rd_T54 l1 x5_1).f0.f8) == 0 && (((rd_T54 l1 x5_1).f0.f9) == 0 && (((rd_T54 l1 x5_1).f0.f10) == 0 && (((rd_T54 l1 x5_1).f0.f11) == 0 && (((rd_T54 l1 x5_1).f0.f12) == 0 && (((rd_T54 l1 x5_1).f0.f13) == 0)))))))))))))) = true := by simpa using c21))
        (try (have c21b2 : (((rd_T54 l1 x5_1).f0.f0) == 0 && (((rd_T54 l1 x5_1).f0.f1) == 0 && (((rd_T54 l1 x5_1).f0.f2) == 0 && (((rd_T54 l1 x5_1).f0.f3) == 0 && (((rd_T54 l1 x5_1).f0.f4) == 0 && (((rd_T54 l1 x5_1).f0.f5) == 0 && (((rd_T54 l1 x5_1).f0.f6) == 0 && (((rd_T54 l1 x5_1).f0.f7) == 0 && (((rd_T54 l1 x5_1).f0.f8) == 0 && (((rd_T54 l1 x5_1).f0.f9) == 0 && (((rd_T54 l1 x5_1).f0.f10) == 0 && (((rd_T54 l1 x5_1).f0.f11) == 0 && (((rd_T54 l1 x5_1).f0.f12) == 0 && (((rd_T54 l1 x5_1).f0.f13) == 0)))))))))))))) = true := by simpa using c21))
        clear c21
        (first | rw [c21b0] | (simp only [zp, zq]; rw [c21b0]) | skip)
        have H' := zd.mk H
        clear H
        try go_wp2
        have n0_ := zd.mk (zh BK140.out)
        have n1_ := zd.mk (zb HB.out)
        clear BK140
        clear HB
        have BK140 := n0_
        have HB := n1_
        clear n0_ n1_
        have p147 : 0 ≤ (x5_1 : Int) := od (by first | (with_reducible assumption) | assumption)
        have q147 : x5_1 < (l1.length : Int) := od (by first | (with_reducible assumption) | assumption)
        obtain ⟨ad147, e147, u5_0, u5_1, u5_2, u5_3, u5_4, u5_5, u5_6, u5_7, u5_8, u5_9, u5_10, u5_11, u5_12, u5_13, u5_14, u5_15, u5_16, u5_17, u5_18, u5_19, v4_0, v4_1, v4_2, v4_3, v4_4, v4_5, v4_6, v4_7, v4_8, v4_9, v4_10, v4_11, v4_12, v4_13, v4_14, v4_15, v4_16, v4_17, v4_18, v4_19⟩ := ab_T54 HB.out HR1.out x5_1 p147 q147
        (try rw [← Nbq8.out] at u5_18)
        (try rw [← Nbq8.out] at u5_19)
        obtain rfl : ad142 = ad147 := (by injection e147)
        replace p147 := eq_true p147
        replace q147 := eq_true q147
        refine start_ (n := 23) (S := fun w' => EA0 w' (ad142.add ((x5_1).toNat * 20)) (rd_T54 l1 x5_1) ((rd_T54 l1 x5_1).f2.f1) (false)) (ds := []) (fm 23 0) (by kernel_rfl) rfl rfl ⟨(bc HB.out v4_0), (bc HB.out v4_1), (bc HB.out v4_2), (bc HB.out v4_3), (bc HB.out v4_4), (bc HB.out v4_5), (bc HB.out v4_6), (bc HB.out v4_7), (bc HB.out v4_8), (bc HB.out v4_9), (bc HB.out v4_10), (bc HB.out v4_11), (bc HB.out v4_12), (bc HB.out v4_13), (bc HB.out v4_14), (bc HB.out v4_15), (bc HB.out v4_16), (bc HB.out v4_17), (by first | exact (bc HB.out v4_18) | (have h_ := (bc HB.out v4_18); rw [← Nbq8.out] at h_; exact h_)), (by first | exact (bc HB.out v4_19) | (have h_ := (bc HB.out v4_19); rw [← Nbq8.out] at h_; exact h_))⟩ (fun hHeld => ?_); refine zna spec_l03Plan.tab10 spec_l03Plan.bits10 (fun HT_ HW_ => ?_)
        generalize wr.drew = w22 at BK140 HB u5_0 u5_1 u5_10 u5_11 u5_12 u5_13 u5_14 u5_15 u5_16 u5_17 u5_18 u5_19 u5_2 u5_3 u5_4 u5_5 u5_6 u5_7 u5_8 u5_9 hHeld ⊢
        refine pb 0 48 (fm 23 1) rfl rfl HT_.out (by kernel_rfl) pq (by rfl) (by intro w'; go_simp; with_reducible rfl) (by simp only [Act.put, ea, eb, ec, zp, zq]; rfl) ?_
        refine pb 1 49 (fm 23 2) rfl rfl HT_.out (by kernel_rfl) pq (by rfl) (by intro w'; go_simp; with_reducible rfl) (by simp only [Act.put, ea, eb, ec, zp, zq]; rfl) ?_
        refine pb 2 50 (fm 23 3) rfl rfl HT_.out (by kernel_rfl) pq (by rfl) (by intro w'; go_simp; with_reducible rfl) (by simp only [Act.put, ea, eb, ec, zp, zq]; rfl) ?_
        refine pb 4 52 #[T, T, T, F, T, F, F, F, F, F, F, F, F, F, F, F, F, F, F, F, F, F, F] rfl rfl HT_.out (by kernel_rfl) pq (by rfl) (by intro w'; go_simp; with_reducible rfl) (by simp only [Act.put, ea, eb, ec, zp, zq]; rfl) ?_
        refine take_ (i := 3) (N := some 51) (v := ?_) (a' := ?_) (fm 23 5) rfl rfl (zaa HT_.out HW_.out (by kernel_rfl)) (fun _ _ _ h => h) (Or.inl ⟨by rfl, ?_⟩) hHeld ?_ ?_
        rotate_left
        ·rintro w' ⟨s0, s1, s2, s3, s4, s5, s6, s7, s8, s9, s10, s11, s12, s13, s14, s15, s16, s17, s18, s19⟩
         go_simp
         with_reducible rfl
        rotate_left
        ·simp only [Act.put, List.setIfInBounds_toArray, List.set_cons_zero, List.set_cons_succ, zp, zq]
         rfl
        refine pb 5 53 (fm 23 6) rfl rfl HT_.out (by kernel_rfl) pq (by rfl) (by intro w'; go_simp; with_reducible rfl) (by simp only [Act.put, ea, eb, ec, zp, zq]; rfl) ?_
        refine pb 6 54 (fm 23 7) rfl rfl HT_.out (by kernel_rfl) pq (by rfl) (by intro w'; go_simp; with_reducible rfl) (by simp only [Act.put, ea, eb, ec, zp, zq]; rfl) ?_
        refine pc 7 55 (fm 23 8) rfl rfl HT_.out (by kernel_rfl) pq (by rfl) rfl (by simp only [Act.put, ea, eb, ec, zp, zq]; rfl) ?_
        refine pc 8 56 (fm 23 9) rfl rfl HT_.out (by kernel_rfl) pq (by rfl) rfl (by simp only [Act.put, ea, eb, ec, zp, zq]; rfl) ?_
        refine pc 9 57 (fm 23 10) rfl rfl HT_.out (by kernel_rfl) pq (by rfl) rfl (by simp only [Act.put, ea, eb, ec, zp, zq]; rfl) ?_
        refine pc 10 58 (fm 23 11) rfl rfl HT_.out (by kernel_rfl) pq (by rfl) rfl (by simp only [Act.put, ea, eb, ec, zp, zq]; rfl) ?_
        refine pc 11 59 (fm 23 12) rfl rfl HT_.out (by kernel_rfl) pq (by rfl) rfl (by simp only [Act.put, ea, eb, ec, zp, zq]; rfl) ?_
        refine pc 12 60 (fm 23 13) rfl rfl HT_.out (by kernel_rfl) pq (by rfl) rfl (by simp only [Act.put, ea, eb, ec, zp, zq]; rfl) ?_
        refine pc 13 61 (fm 23 14) rfl rfl HT_.out (by kernel_rfl) pq (by rfl) rfl (by simp only [Act.put, ea, eb, ec, zp, zq]; rfl) ?_
        refine pb 14 62 (fm 23 15) rfl rfl HT_.out (by kernel_rfl) pq (by rfl) (by intro w'; go_simp; with_reducible rfl) (by simp only [Act.put, ea, eb, ec, zp, zq]; rfl) ?_
        refine pb 15 63 (fm 23 16) rfl rfl HT_.out (by kernel_rfl) pq (by rfl) (by intro w'; go_simp; with_reducible rfl) (by simp only [Act.put, ea, eb, ec, zp, zq]; rfl) ?_
        refine pc 16 64 (fm 23 17) rfl rfl HT_.out (by kernel_rfl) pq (by rfl) rfl (by simp only [Act.put, ea, eb, ec, zp, zq]; rfl) ?_
        refine pc 17 65 (fm 23 18) rfl rfl HT_.out (by kernel_rfl) pq (by rfl) rfl (by simp only [Act.put, ea, eb, ec, zp, zq]; rfl) ?_
        refine pc 18 66 (fm 23 19) rfl rfl HT_.out (by kernel_rfl) pq (by rfl) rfl (by simp only [Act.put, ea, eb, ec, zp, zq]; rfl) ?_
        refine pc 19 67 (fm 23 20) rfl rfl HT_.out (by kernel_rfl) pq (by rfl) rfl (by simp only [Act.put, ea, eb, ec, zp, zq]; rfl) ?_
        refine pc 20 68 (fm 23 21) rfl rfl HT_.out (by kernel_rfl) pq (by rfl) rfl (by simp only [Act.put, ea, eb, ec, zp, zq]; rfl) ?_
        refine pc 21 69 (fm 23 22) rfl rfl HT_.out (by kernel_rfl) pq (by rfl) rfl (by simp only [Act.put, ea, eb, ec, zp, zq]; rfl) ?_
        refine pb 22 70 (fm 23 23) rfl rfl HT_.out (by kernel_rfl) pq (by rfl) (by intro w'; go_simp; with_reducible rfl) (by simp only [Act.put, ea, eb, ec, zp, zq]; rfl) ?_
        refine done_ (done_of HT_.out (by kernel_rfl)) ?_
        try go_wp2
        go_meet
        case rel => exact ⟨_, (true), (by first | rfl | (simp; done) | (simp [*]; done)), H', ⟨by have := HK1.out; first | omega | exact Nat.le_refl _⟩, ⟨by (with_reducible repeat (first | refine zf ?_ _ | refine zh ?_ | refine zg ?_ _)); exact BK140.out⟩, ⟨by repeat (first | (with_reducible first | exact HB.out | apply zc | apply za | apply zb | refine ze ?_ GE140.out) | exact HB.out)⟩⟩
       rw [if_neg c21] at H
       have c21b0 : (((rd_T54 l1 x5_1).f0.f0) == 0 && (((rd_T54 l1 x5_1).f0.f1) == 0 && (((rd_T54 l1 x5_1).f0.f2) == 0 && (((rd_T54 l1 x5_1).f0.f3) == 0 && (((rd_T54 l1 x5_1).f0.f4) == 0 && (((rd_T54 l1 x5_1).f0.f5) == 0 && (((rd_T54 l1 x5_1).f0.f6) == 0 && (((rd_T54 l1 x5_1).f0.f7) == 0 && (((rd_T54 l1 x5_1).f0.f8) == 0 && (((rd_T54 l1 x5_1).f0.f9) == 0 && (((rd_T54 l1 x5_1).f0.f10) == 0 && (((rd_T54 l1 x5_1).f0.f11) == 0 && (((rd_T54 l1 x5_1).f0.f12) == 0 && (((rd_T54 l1 x5_1).f0.f13) == 0)))))))))))))) = false := by simpa using c21
       (try (have c21b1 : decide (((rd_T54 l1 x5_1).f0.f0) = 0 && (((rd_T54 l1 x5_1).f0.f1) == 0 && (((rd_T54 l1 x5_1).f0.f2) == 0 && (((rd_T54 l1 x5_1).f0.f3) == 0 && (((rd_T54 l1 x5_1).f0.f4) == 0 && (((rd_T54 l1 x5_1).f0.f5) == 0 && (((rd_T54 l1 x5_1).f0.f6) == 0 && (((rd_T54 l1 x5_1).f0.f7) == 0 && (((rd_T54 l1 x5_1).f0.f8) == 0 && (((rd_T54 l1 x5_1).f0.f9) == 0 && (((rd_T54 l1 x5_1).f0.f10) == 0 && (((rd_T54 l1 x5_1).f0.f11) == 0 && (((rd_T54 l1 x5_1).f0.f12) == 0 && (((rd_T54 l1 x5_1).f0.f13) == 0)))))))))))))) = false := by simpa using c21))
       (try (have c21b2 : (((rd_T54 l1 x5_1).f0.f0) == 0 && (((rd_T54 l1 x5_1).f0.f1) == 0 && (((rd_T54 l1 x5_1).f0.f2) == 0 && (((rd_T54 l1 x5_1).f0.f3) == 0 && (((rd_T54 l1 x5_1).f0.f4) == 0 && (((rd_T54 l1 x5_1).f0.f5) == 0 && (((rd_T54 l1 x5_1).f0.f6) == 0 && (((rd_T54 l1 x5_1).f0.f7) == 0 && (((rd_T54 l1 x5_1).f0.f8) == 0 && (((rd_T54 l1 x5_1).f0.f9) == 0 && (((rd_T54 l1 x5_1).f0.f10) == 0 && (((rd_T54 l1 x5_1).f0.f11) == 0 && (((rd_T54 l1 x5_1).f0.f12) == 0 && (((rd_T54 l1 x5_1).f0.f13) == 0)))))))))))))) = false := by simpa using c21))
       (try (have c21b3 : ¬ (((rd_T54 l1 x5_1).f0.f0) = 0 && (((rd_T54 l1 x5_1).f0.f1) == 0 && (((rd_T54 l1 x5_1).f0.f2) == 0 && (((rd_T54 l1 x5_1).f0.f3) == 0 && (((rd_T54 l1 x5_1).f0.f4) == 0 && (((rd_T54 l1 x5_1).f0.f5) == 0 && (((rd_T54 l1 x5_1).f0.f6) == 0 && (((rd_T54 l1 x5_1).f0.f7) == 0 && (((rd_T54 l1 x5_1).f0.f8) == 0 && (((rd_T54 l1 x5_1).f0.f9) == 0 && (((rd_T54 l1 x5_1).f0.f10) == 0 && (((rd_T54 l1 x5_1).f0.f11) == 0 && (((rd_T54 l1 x5_1).f0.f12) == 0 && (((rd_T54 l1 x5_1).f0.f13) == 0)))))))))))))) := by simpa using c21))
       clear c21
       (first | rw [c21b0] | (simp only [zp, zq]; rw [c21b0]) | skip)
       replace H := Option.bind_eq_some_iff.mp H
       obtain ⟨t149, A230, H⟩ := H
       replace H : (if t149 = true then (spec_l03Plan.j1 k1 l1 x5_1 (!(((rd_T54 l1 x5_1).f2.f0) == 0) || (((rd_T54 l1 x5_1).f2.f1))) a0_0 a0_1 a0_2 a0_3) else (spec_l03Plan.j1 k1 l1 x5_1 true a0_0 a0_1 a0_2 a0_3)) = some r := H
       have A23 := zd.mk A230
       clear A230
       by_cases c24 : t149 = true
       ·subst c24
        have H1 : (spec_l03Plan.j1 k1 l1 x5_1 (!(((rd_T54 l1 x5_1).f2.f0) == 0) || (((rd_T54 l1 x5_1).f2.f1))) a0_0 a0_1 a0_2 a0_3) = some r := by rw [if_pos rfl] at H; exact H
        clear H
        have H := H1
        clear H1
        have H' := zd.mk H
        clear H
        try go_wp2
        have n0_ := zd.mk (zh BK140.out)
        have n1_ := zd.mk (zb HB.out)
        clear BK140
        clear HB
        have BK140 := n0_
        have HB := n1_
        clear n0_ n1_
        have p147 : 0 ≤ (x5_1 : Int) := od (by first | (with_reducible assumption) | assumption)
        have q147 : x5_1 < (l1.length : Int) := od (by first | (with_reducible assumption) | assumption)
        obtain ⟨ad147, e147, u5_0, u5_1, u5_2, u5_3, u5_4, u5_5, u5_6, u5_7, u5_8, u5_9, u5_10, u5_11, u5_12, u5_13, u5_14, u5_15, u5_16, u5_17, u5_18, u5_19, v4_0, v4_1, v4_2, v4_3, v4_4, v4_5, v4_6, v4_7, v4_8, v4_9, v4_10, v4_11, v4_12, v4_13, v4_14, v4_15, v4_16, v4_17, v4_18, v4_19⟩ := ab_T54 HB.out HR1.out x5_1 p147 q147
        (try rw [← Nbq8.out] at u5_18)
        (try rw [← Nbq8.out] at u5_19)
        obtain rfl : ad142 = ad147 := (by injection e147)
        replace p147 := eq_true p147
        replace q147 := eq_true q147
        have p148 : 0 ≤ (x5_1 : Int) := od (by first | (with_reducible assumption) | assumption)
        have q148 : x5_1 < (l1.length : Int) := od (by first | (with_reducible assumption) | assumption)
        obtain ⟨ad148, e148, u6_0, u6_1, u6_2, u6_3, u6_4, u6_5, u6_6, u6_7, u6_8, u6_9, u6_10, u6_11, u6_12, u6_13, u6_14, u6_15, u6_16, u6_17, u6_18, u6_19, v5_0, v5_1, v5_2, v5_3, v5_4, v5_5, v5_6, v5_7, v5_8, v5_9, v5_10, v5_11, v5_12, v5_13, v5_14, v5_15, v5_16, v5_17, v5_18, v5_19⟩ := ab_T54 HB.out HR1.out x5_1 p148 q148
        (try rw [← Nbq8.out] at u6_18)
        (try rw [← Nbq8.out] at u6_19)
        obtain rfl : ad142 = ad148 := (by injection e148)
        replace p148 := eq_true p148
        replace q148 := eq_true q148
        have p150 : 0 ≤ (x5_1 : Int) := od (by first | (with_reducible assumption) | assumption)
        have q150 : x5_1 < (l1.length : Int) := od (by first | (with_reducible assumption) | assumption)
        obtain ⟨ad150, e150, u7_0, u7_1, u7_2, u7_3, u7_4, u7_5, u7_6, u7_7, u7_8, u7_9, u7_10, u7_11, u7_12, u7_13, u7_14, u7_15, u7_16, u7_17, u7_18, u7_19, v6_0, v6_1, v6_2, v6_3, v6_4, v6_5, v6_6, v6_7, v6_8, v6_9, v6_10, v6_11, v6_12, v6_13, v6_14, v6_15, v6_16, v6_17, v6_18, v6_19⟩ := ab_T54 HB.out HR1.out x5_1 p150 q150
        (try rw [← Nbq8.out] at u7_18)
        (try rw [← Nbq8.out] at u7_19)
        obtain rfl : ad142 = ad150 := (by injection e150)
        replace p150 := eq_true p150
        replace q150 := eq_true q150
        refine start_ (n := 23) (S := fun w' => w'.cell? ⟨gb140, 0, none⟩ = some (.int .i8 a0_0) ∧ w'.cell? ⟨gb140, 1, none⟩ = some (.int .i8 a0_1) ∧ w'.cell? ⟨gb140, 2, none⟩ = some (.bool a0_2) ∧ w'.cell? ⟨gb140, 3, none⟩ = some (.bool a0_3) ∧ EA w' (ad142.add ((x5_1).toNat * 20)) (rd_T54 l1 x5_1) ((rd_T54 l1 x5_1).f2.f1) (false) (EA w' (ad142.add ((x5_1).toNat * 20)) (rd_T54 l1 x5_1) ((rd_T54 l1 x5_1).f2.f1) (false) (EA0 w' (ad142.add ((x5_1).toNat * 20)) (rd_T54 l1 x5_1) ((rd_T54 l1 x5_1).f2.f1) (false)))) (ds := []) (fm 23 0) (by kernel_rfl) rfl rfl ⟨(zl BK140.out 0).trans rfl, (zl BK140.out 1).trans rfl, (zl BK140.out 2).trans rfl, (zl BK140.out 3).trans rfl, (bc HB.out v4_0), (bc HB.out v4_1), (bc HB.out v4_2), (bc HB.out v4_3), (bc HB.out v4_4), (bc HB.out v4_5), (bc HB.out v4_6), (bc HB.out v4_7), (bc HB.out v4_8), (bc HB.out v4_9), (bc HB.out v4_10), (bc HB.out v4_11), (bc HB.out v4_12), (bc HB.out v4_13), (bc HB.out v4_14), (bc HB.out v4_15), (bc HB.out v4_16), (bc HB.out v4_17), (by first | exact (bc HB.out v4_18) | (have h_ := (bc HB.out v4_18); rw [← Nbq8.out] at h_; exact h_)), (by first | exact (bc HB.out v4_19) | (have h_ := (bc HB.out v4_19); rw [← Nbq8.out] at h_; exact h_)), (bc HB.out v5_0), (bc HB.out v5_1), (bc HB.out v5_2), (bc HB.out v5_3), (bc HB.out v5_4), (bc HB.out v5_5), (bc HB.out v5_6), (bc HB.out v5_7), (bc HB.out v5_8), (bc HB.out v5_9), (bc HB.out v5_10), (bc HB.out v5_11), (bc HB.out v5_12), (bc HB.out v5_13), (bc HB.out v5_14), (bc HB.out v5_15), (bc HB.out v5_16), (bc HB.out v5_17), (by first | exact (bc HB.out v5_18) | (have h_ := (bc HB.out v5_18); rw [← Nbq8.out] at h_; exact h_)), (by first | exact (bc HB.out v5_19) | (have h_ := (bc HB.out v5_19); rw [← Nbq8.out] at h_; exact h_)), (bc HB.out v6_0), (bc HB.out v6_1), (bc HB.out v6_2), (bc HB.out v6_3), (bc HB.out v6_4), (bc HB.out v6_5), (bc HB.out v6_6), (bc HB.out v6_7), (bc HB.out v6_8), (bc HB.out v6_9), (bc HB.out v6_10), (bc HB.out v6_11), (bc HB.out v6_12), (bc HB.out v6_13), (bc HB.out v6_14), (bc HB.out v6_15), (bc HB.out v6_16), (bc HB.out v6_17), (by first | exact (bc HB.out v6_18) | (have h_ := (bc HB.out v6_18); rw [← Nbq8.out] at h_; exact h_)), (by first | exact (bc HB.out v6_19) | (have h_ := (bc HB.out v6_19); rw [← Nbq8.out] at h_; exact h_))⟩ (fun hHeld => ?_); refine zna spec_l03Plan.tab10 spec_l03Plan.bits10 (fun HT_ HW_ => ?_)
        generalize wr.drew = w25 at BK140 HB u5_0 u5_1 u5_10 u5_11 u5_12 u5_13 u5_14 u5_15 u5_16 u5_17 u5_18 u5_19 u5_2 u5_3 u5_4 u5_5 u5_6 u5_7 u5_8 u5_9 u6_0 u6_1 u6_10 u6_11 u6_12 u6_13 u6_14 u6_15 u6_16 u6_17 u6_18 u6_19 u6_2 u6_3 u6_4 u6_5 u6_6 u6_7 u6_8 u6_9 u7_0 u7_1 u7_10 u7_11 u7_12 u7_13 u7_14 u7_15 u7_16 u7_17 u7_18 u7_19 u7_2 u7_3 u7_4 u7_5 u7_6 u7_7 u7_8 u7_9 hHeld ⊢
        refine pb 0 48 (fm 23 1) rfl rfl HT_.out (by kernel_rfl) pq (by rfl) (by intro w'; go_simp; with_reducible rfl) (by simp only [Act.put, ea, eb, ec, zp, zq]; rfl) ?_
        refine pb 1 49 (fm 23 2) rfl rfl HT_.out (by kernel_rfl) pq (by rfl) (by intro w'; go_simp; with_reducible rfl) (by simp only [Act.put, ea, eb, ec, zp, zq]; rfl) ?_
        refine pb 2 50 (fm 23 3) rfl rfl HT_.out (by kernel_rfl) pq (by rfl) (by intro w'; go_simp; with_reducible rfl) (by simp only [Act.put, ea, eb, ec, zp, zq]; rfl) ?_
        refine pb 4 52 #[T, T, T, F, T, F, F, F, F, F, F, F, F, F, F, F, F, F, F, F, F, F, F] rfl rfl HT_.out (by kernel_rfl) pq (by rfl) (by intro w'; go_simp; with_reducible rfl) (by simp only [Act.put, ea, eb, ec, zp, zq]; rfl) ?_
        refine take_ (i := 3) (N := some 51) (v := ?_) (a' := ?_) (fm 23 5) rfl rfl (zaa HT_.out HW_.out (by kernel_rfl)) (fun _ _ _ h => h) (Or.inl ⟨by rfl, ?_⟩) hHeld ?_ ?_
        rotate_left
        ·rintro w' ⟨s0, s1, s2, s3, s4, s5, s6, s7, s8, s9, s10, s11, s12, s13, s14, s15, s16, s17, s18, s19, s20, s21, s22, s23, s24, s25, s26, s27, s28, s29, s30, s31, s32, s33, s34, s35, s36, s37, s38, s39, s40, s41, s42, s43, s44, s45, s46, s47, s48, s49, s50, s51, s52, s53, s54, s55, s56, s57, s58, s59, s60, s61, s62, s63⟩
         go_simp
         with_reducible rfl
        rotate_left
        ·simp only [Act.put, List.setIfInBounds_toArray, List.set_cons_zero, List.set_cons_succ, zp, zq]
         rfl
        refine pb 5 53 (fm 23 6) rfl rfl HT_.out (by kernel_rfl) pq (by rfl) (by intro w'; go_simp; with_reducible rfl) (by simp only [Act.put, ea, eb, ec, zp, zq]; rfl) ?_
        refine pb 6 54 (fm 23 7) rfl rfl HT_.out (by kernel_rfl) pq (by rfl) (by intro w'; go_simp; with_reducible rfl) (by simp only [Act.put, ea, eb, ec, zp, zq]; rfl) ?_
        refine pb 8 56 #[T, T, T, T, T, T, T, F, T, F, F, F, F, F, F, F, F, F, F, F, F, F, F] rfl rfl HT_.out (by kernel_rfl) pq (by rfl) (by intro w'; go_simp; with_reducible rfl) (by simp only [Act.put, ea, eb, ec, zp, zq]; rfl) ?_
        refine pb 9 57 #[T, T, T, T, T, T, T, F, T, T, F, F, F, F, F, F, F, F, F, F, F, F, F] rfl rfl HT_.out (by kernel_rfl) pq (by rfl) (by intro w'; go_simp; with_reducible rfl) (by simp only [Act.put, ea, eb, ec, zp, zq]; rfl) ?_
        refine pb 10 58 #[T, T, T, T, T, T, T, F, T, T, T, F, F, F, F, F, F, F, F, F, F, F, F] rfl rfl HT_.out (by kernel_rfl) pq (by rfl) (by intro w'; go_simp; with_reducible rfl) (by simp only [Act.put, ea, eb, ec, zp, zq]; rfl) ?_
        refine take_ (i := 7) (N := some 55) (v := ?_) (a' := ?_) (fm 23 11) rfl rfl (zaa HT_.out HW_.out (by kernel_rfl)) (fun _ _ _ h => h) (Or.inl ⟨by rfl, ?_⟩) hHeld ?_ ?_
        rotate_left
        ·rintro w' ⟨s0, s1, s2, s3, s4, s5, s6, s7, s8, s9, s10, s11, s12, s13, s14, s15, s16, s17, s18, s19, s20, s21, s22, s23, s24, s25, s26, s27, s28, s29, s30, s31, s32, s33, s34, s35, s36, s37, s38, s39, s40, s41, s42, s43, s44, s45, s46, s47, s48, s49, s50, s51, s52, s53, s54, s55, s56, s57, s58, s59, s60, s61, s62, s63⟩
         go_simp
         with_reducible rfl
        rotate_left
        ·simp only [Act.put, List.setIfInBounds_toArray, List.set_cons_zero, List.set_cons_succ, zp, zq]
         rfl
        refine take_ (i := 11) (N := some 59) (v := ?_) (a' := ?_) (fm 23 12) rfl rfl (zaa HT_.out HW_.out (by kernel_rfl)) (fun _ _ _ h => h) (Or.inl ⟨by rfl, ?_⟩) hHeld ?_ ?_
        rotate_left
        ·rintro w' ⟨s0, s1, s2, s3, s4, s5, s6, s7, s8, s9, s10, s11, s12, s13, s14, s15, s16, s17, s18, s19, s20, s21, s22, s23, s24, s25, s26, s27, s28, s29, s30, s31, s32, s33, s34, s35, s36, s37, s38, s39, s40, s41, s42, s43, s44, s45, s46, s47, s48, s49, s50, s51, s52, s53, s54, s55, s56, s57, s58, s59, s60, s61, s62, s63⟩
         go_simp
         with_reducible rfl
        rotate_left
        ·simp only [Act.put, List.setIfInBounds_toArray, List.set_cons_zero, List.set_cons_succ, zp, zq]
         rfl
        refine one_ (i := 12) (N := some 60) (fm 23 13) rfl rfl (one_of HT_.out (by kernel_rfl)) (by decide) (fun K hK => ?_)
        refine goes_ Try.func55 (by kernel_rfl) rfl #[.agg #[.int .i8 a0_0, .int .i8 a0_1, .bool a0_2, .bool a0_3], .agg #[.int .i8 ((rd_T54 l1 x5_1).f0.f0), .int .i8 ((rd_T54 l1 x5_1).f0.f1), .int .i8 ((rd_T54 l1 x5_1).f0.f2), .int .i8 ((rd_T54 l1 x5_1).f0.f3), .int .i8 ((rd_T54 l1 x5_1).f0.f4), .int .i8 ((rd_T54 l1 x5_1).f0.f5), .int .i8 ((rd_T54 l1 x5_1).f0.f6), .int .i8 ((rd_T54 l1 x5_1).f0.f7), .int .i8 ((rd_T54 l1 x5_1).f0.f8), .int .i8 ((rd_T54 l1 x5_1).f0.f9), .int .i8 ((rd_T54 l1 x5_1).f0.f10), .int .i8 ((rd_T54 l1 x5_1).f0.f11), .int .i8 ((rd_T54 l1 x5_1).f0.f12), .int .i8 ((rd_T54 l1 x5_1).f0.f13)]] (by rfl) rfl rfl (by (try simp only [List.map_toArray, List.map_cons, List.map_nil]); first | done | rfl | (simp only [List.length_drop, List.length_take]; rfl)) ?_
        with_reducible refine (spec_l03Weighing.calls k1 a0_0 a0_1 a0_2 a0_3 ((rd_T54 l1 x5_1).f0.f0) ((rd_T54 l1 x5_1).f0.f1) ((rd_T54 l1 x5_1).f0.f2) ((rd_T54 l1 x5_1).f0.f3) ((rd_T54 l1 x5_1).f0.f4) ((rd_T54 l1 x5_1).f0.f5) ((rd_T54 l1 x5_1).f0.f6) ((rd_T54 l1 x5_1).f0.f7) ((rd_T54 l1 x5_1).f0.f8) ((rd_T54 l1 x5_1).f0.f9) ((rd_T54 l1 x5_1).f0.f10) ((rd_T54 l1 x5_1).f0.f11) ((rd_T54 l1 x5_1).f0.f12) ((rd_T54 l1 x5_1).f0.f13) true _ A23.out).mono ?_
        rintro e w26 ⟨rfl, hb⟩
        refine ⟨_, rfl, ?_⟩
        have n0_ := zd.mk (zj (by (with_reducible repeat (first | refine zf ?_ _ | refine zh ?_ | refine zg ?_ _)); exact BK140.out) hb)
        have n1_ := zd.mk (zk (by repeat (first | (with_reducible first | exact HB.out | apply zc | apply za | apply zb | refine ze ?_ GE140.out) | exact HB.out)) hb)
        clear BK140
        clear HB
        have BK140 := n0_
        have HB := n1_
        clear n0_ n1_
        (try clear hb)
        (try clear hb2)
        (try clear hk)
        (try clear hi)
        refine hK.out _ _ ⟨(zl BK140.out 0).trans rfl, (zl BK140.out 1).trans rfl, (zl BK140.out 2).trans rfl, (zl BK140.out 3).trans rfl, (bc HB.out v4_0), (bc HB.out v4_1), (bc HB.out v4_2), (bc HB.out v4_3), (bc HB.out v4_4), (bc HB.out v4_5), (bc HB.out v4_6), (bc HB.out v4_7), (bc HB.out v4_8), (bc HB.out v4_9), (bc HB.out v4_10), (bc HB.out v4_11), (bc HB.out v4_12), (bc HB.out v4_13), (bc HB.out v4_14), (bc HB.out v4_15), (bc HB.out v4_16), (bc HB.out v4_17), (by first | exact (bc HB.out v4_18) | (have h_ := (bc HB.out v4_18); rw [← Nbq8.out] at h_; exact h_)), (by first | exact (bc HB.out v4_19) | (have h_ := (bc HB.out v4_19); rw [← Nbq8.out] at h_; exact h_)), (bc HB.out v5_0), (bc HB.out v5_1), (bc HB.out v5_2), (bc HB.out v5_3), (bc HB.out v5_4), (bc HB.out v5_5), (bc HB.out v5_6), (bc HB.out v5_7), (bc HB.out v5_8), (bc HB.out v5_9), (bc HB.out v5_10), (bc HB.out v5_11), (bc HB.out v5_12), (bc HB.out v5_13), (bc HB.out v5_14), (bc HB.out v5_15), (bc HB.out v5_16), (bc HB.out v5_17), (by first | exact (bc HB.out v5_18) | (have h_ := (bc HB.out v5_18); rw [← Nbq8.out] at h_; exact h_)), (by first | exact (bc HB.out v5_19) | (have h_ := (bc HB.out v5_19); rw [← Nbq8.out] at h_; exact h_)), (bc HB.out v6_0), (bc HB.out v6_1), (bc HB.out v6_2), (bc HB.out v6_3), (bc HB.out v6_4), (bc HB.out v6_5), (bc HB.out v6_6), (bc HB.out v6_7), (bc HB.out v6_8), (bc HB.out v6_9), (bc HB.out v6_10), (bc HB.out v6_11), (bc HB.out v6_12), (bc HB.out v6_13), (bc HB.out v6_14), (bc HB.out v6_15), (bc HB.out v6_16), (bc HB.out v6_17), (by first | exact (bc HB.out v6_18) | (have h_ := (bc HB.out v6_18); rw [← Nbq8.out] at h_; exact h_)), (by first | exact (bc HB.out v6_19) | (have h_ := (bc HB.out v6_19); rw [← Nbq8.out] at h_; exact h_))⟩ (fun hHeld => ?_)
        clear hK K
        refine norm_ (a' := ?_) ?_ ?_
        rotate_left
        ·show Act.put _ (some 60) _ = _
         simp only [Act.put, List.setIfInBounds_toArray, List.set_cons_zero, List.set_cons_succ, zp, zq]
         rfl
        refine pb 13 61 (fm 23 14) rfl rfl HT_.out (by kernel_rfl) pq (by rfl) (by intro w'; go_simp; with_reducible rfl) (by simp only [Act.put, ea, eb, ec, zp, zq]; rfl) ?_
        refine pb 14 62 (fm 23 15) rfl rfl HT_.out (by kernel_rfl) pq (by rfl) (by intro w'; go_simp; with_reducible rfl) (by simp only [Act.put, ea, eb, ec, zp, zq]; rfl) ?_
        refine pb 15 63 (fm 23 16) rfl rfl HT_.out (by kernel_rfl) pq (by rfl) (by intro w'; go_simp; with_reducible rfl) (by simp only [Act.put, ea, eb, ec, zp, zq]; rfl) ?_
        refine pb 16 64 (fm 23 17) rfl rfl HT_.out (by kernel_rfl) pq (by rfl) (by intro w'; go_simp; with_reducible rfl) (by simp only [Act.put, ea, eb, ec, zp, zq]; rfl) ?_
        refine pb 17 65 (fm 23 18) rfl rfl HT_.out (by kernel_rfl) pq (by rfl) (by intro w'; go_simp; with_reducible rfl) (by simp only [Act.put, ea, eb, ec, zp, zq]; rfl) ?_
        refine pb 18 66 (fm 23 19) rfl rfl HT_.out (by kernel_rfl) pq (by rfl) (by intro w'; go_simp; with_reducible rfl) (by simp only [Act.put, ea, eb, ec, zp, zq]; rfl) ?_
        refine pb 20 68 #[T, T, T, T, T, T, T, T, T, T, T, T, T, T, T, T, T, T, T, F, T, F, F] rfl rfl HT_.out (by kernel_rfl) pq (by rfl) (by intro w'; go_simp; with_reducible rfl) (by simp only [Act.put, ea, eb, ec, zp, zq]; rfl) ?_
        refine take_ (i := 19) (N := some 67) (v := ?_) (a' := ?_) (fm 23 21) rfl rfl (zaa HT_.out HW_.out (by kernel_rfl)) (fun _ _ _ h => h) (Or.inl ⟨by rfl, ?_⟩) hHeld ?_ ?_
        rotate_left
        ·rintro w' ⟨s0, s1, s2, s3, s4, s5, s6, s7, s8, s9, s10, s11, s12, s13, s14, s15, s16, s17, s18, s19, s20, s21, s22, s23, s24, s25, s26, s27, s28, s29, s30, s31, s32, s33, s34, s35, s36, s37, s38, s39, s40, s41, s42, s43, s44, s45, s46, s47, s48, s49, s50, s51, s52, s53, s54, s55, s56, s57, s58, s59, s60, s61, s62, s63⟩
         go_simp
         with_reducible rfl
        rotate_left
        ·simp only [Act.put, List.setIfInBounds_toArray, List.set_cons_zero, List.set_cons_succ, zp, zq]
         rfl
        refine pb 21 69 (fm 23 22) rfl rfl HT_.out (by kernel_rfl) pq (by rfl) (by intro w'; go_simp; with_reducible rfl) (by simp only [Act.put, ea, eb, ec, zp, zq]; rfl) ?_
        refine pb 22 70 (fm 23 23) rfl rfl HT_.out (by kernel_rfl) pq (by rfl) (by intro w'; go_simp; with_reducible rfl) (by simp only [Act.put, ea, eb, ec, zp, zq]; rfl) ?_
        refine done_ (done_of HT_.out (by kernel_rfl)) ?_
        try go_wp2
        go_meet
        case rel => exact ⟨_, ((!(((rd_T54 l1 x5_1).f2.f0) == 0) || (((rd_T54 l1 x5_1).f2.f1)))), (by first | rfl | (simp; done) | (simp [*]; done)), H', ⟨by have := HK1.out; first | omega | exact Nat.le_refl _⟩, ⟨by (with_reducible repeat (first | refine zf ?_ _ | refine zh ?_ | refine zg ?_ _)); exact BK140.out⟩, ⟨by repeat (first | (with_reducible first | exact HB.out | apply zc | apply za | apply zb | refine ze ?_ GE140.out) | exact HB.out)⟩⟩
       replace c24 := Bool.eq_false_iff.mpr c24
       subst c24
       have H1 : (spec_l03Plan.j1 k1 l1 x5_1 true a0_0 a0_1 a0_2 a0_3) = some r := by rw [if_neg (show ¬ (false = true) by decide)] at H; exact H
       clear H
       have H := H1
       clear H1
       have H' := zd.mk H
       clear H
       try go_wp2
       have n0_ := zd.mk (zh BK140.out)
       have n1_ := zd.mk (zb HB.out)
       clear BK140
       clear HB
       have BK140 := n0_
       have HB := n1_
       clear n0_ n1_
       have p147 : 0 ≤ (x5_1 : Int) := od (by first | (with_reducible assumption) | assumption)
       have q147 : x5_1 < (l1.length : Int) := od (by first | (with_reducible assumption) | assumption)
       obtain ⟨ad147, e147, u5_0, u5_1, u5_2, u5_3, u5_4, u5_5, u5_6, u5_7, u5_8, u5_9, u5_10, u5_11, u5_12, u5_13, u5_14, u5_15, u5_16, u5_17, u5_18, u5_19, v4_0, v4_1, v4_2, v4_3, v4_4, v4_5, v4_6, v4_7, v4_8, v4_9, v4_10, v4_11, v4_12, v4_13, v4_14, v4_15, v4_16, v4_17, v4_18, v4_19⟩ := ab_T54 HB.out HR1.out x5_1 p147 q147
       (try rw [← Nbq8.out] at u5_18)
       (try rw [← Nbq8.out] at u5_19)
       obtain rfl : ad142 = ad147 := (by injection e147)
       replace p147 := eq_true p147
       replace q147 := eq_true q147
       have p148 : 0 ≤ (x5_1 : Int) := od (by first | (with_reducible assumption) | assumption)
       have q148 : x5_1 < (l1.length : Int) := od (by first | (with_reducible assumption) | assumption)
       obtain ⟨ad148, e148, u6_0, u6_1, u6_2, u6_3, u6_4, u6_5, u6_6, u6_7, u6_8, u6_9, u6_10, u6_11, u6_12, u6_13, u6_14, u6_15, u6_16, u6_17, u6_18, u6_19, v5_0, v5_1, v5_2, v5_3, v5_4, v5_5, v5_6, v5_7, v5_8, v5_9, v5_10, v5_11, v5_12, v5_13, v5_14, v5_15, v5_16, v5_17, v5_18, v5_19⟩ := ab_T54 HB.out HR1.out x5_1 p148 q148
       (try rw [← Nbq8.out] at u6_18)
       (try rw [← Nbq8.out] at u6_19)
       obtain rfl : ad142 = ad148 := (by injection e148)
       replace p148 := eq_true p148
       replace q148 := eq_true q148
       refine start_ (n := 23) (S := fun w' => w'.cell? ⟨gb140, 0, none⟩ = some (.int .i8 a0_0) ∧ w'.cell? ⟨gb140, 1, none⟩ = some (.int .i8 a0_1) ∧ w'.cell? ⟨gb140, 2, none⟩ = some (.bool a0_2) ∧ w'.cell? ⟨gb140, 3, none⟩ = some (.bool a0_3) ∧ EA w' (ad142.add ((x5_1).toNat * 20)) (rd_T54 l1 x5_1) ((rd_T54 l1 x5_1).f2.f1) (false) (EA0 w' (ad142.add ((x5_1).toNat * 20)) (rd_T54 l1 x5_1) ((rd_T54 l1 x5_1).f2.f1) (false))) (ds := []) (fm 23 0) (by kernel_rfl) rfl rfl ⟨(zl BK140.out 0).trans rfl, (zl BK140.out 1).trans rfl, (zl BK140.out 2).trans rfl, (zl BK140.out 3).trans rfl, (bc HB.out v4_0), (bc HB.out v4_1), (bc HB.out v4_2), (bc HB.out v4_3), (bc HB.out v4_4), (bc HB.out v4_5), (bc HB.out v4_6), (bc HB.out v4_7), (bc HB.out v4_8), (bc HB.out v4_9), (bc HB.out v4_10), (bc HB.out v4_11), (bc HB.out v4_12), (bc HB.out v4_13), (bc HB.out v4_14), (bc HB.out v4_15), (bc HB.out v4_16), (bc HB.out v4_17), (by first | exact (bc HB.out v4_18) | (have h_ := (bc HB.out v4_18); rw [← Nbq8.out] at h_; exact h_)), (by first | exact (bc HB.out v4_19) | (have h_ := (bc HB.out v4_19); rw [← Nbq8.out] at h_; exact h_)), (bc HB.out v5_0), (bc HB.out v5_1), (bc HB.out v5_2), (bc HB.out v5_3), (bc HB.out v5_4), (bc HB.out v5_5), (bc HB.out v5_6), (bc HB.out v5_7), (bc HB.out v5_8), (bc HB.out v5_9), (bc HB.out v5_10), (bc HB.out v5_11), (bc HB.out v5_12), (bc HB.out v5_13), (bc HB.out v5_14), (bc HB.out v5_15), (bc HB.out v5_16), (bc HB.out v5_17), (by first | exact (bc HB.out v5_18) | (have h_ := (bc HB.out v5_18); rw [← Nbq8.out] at h_; exact h_)), (by first | exact (bc HB.out v5_19) | (have h_ := (bc HB.out v5_19); rw [← Nbq8.out] at h_; exact h_))⟩ (fun hHeld => ?_); refine zna spec_l03Plan.tab10 spec_l03Plan.bits10 (fun HT_ HW_ => ?_)
       generalize wr.drew = w27 at BK140 HB u5_0 u5_1 u5_10 u5_11 u5_12 u5_13 u5_14 u5_15 u5_16 u5_17 u5_18 u5_19 u5_2 u5_3 u5_4 u5_5 u5_6 u5_7 u5_8 u5_9 u6_0 u6_1 u6_10 u6_11 u6_12 u6_13 u6_14 u6_15 u6_16 u6_17 u6_18 u6_19 u6_2 u6_3 u6_4 u6_5 u6_6 u6_7 u6_8 u6_9 hHeld ⊢
       refine pb 0 48 (fm 23 1) rfl rfl HT_.out (by kernel_rfl) pq (by rfl) (by intro w'; go_simp; with_reducible rfl) (by simp only [Act.put, ea, eb, ec, zp, zq]; rfl) ?_
       refine pb 1 49 (fm 23 2) rfl rfl HT_.out (by kernel_rfl) pq (by rfl) (by intro w'; go_simp; with_reducible rfl) (by simp only [Act.put, ea, eb, ec, zp, zq]; rfl) ?_
       refine pb 2 50 (fm 23 3) rfl rfl HT_.out (by kernel_rfl) pq (by rfl) (by intro w'; go_simp; with_reducible rfl) (by simp only [Act.put, ea, eb, ec, zp, zq]; rfl) ?_
       refine pb 4 52 #[T, T, T, F, T, F, F, F, F, F, F, F, F, F, F, F, F, F, F, F, F, F, F] rfl rfl HT_.out (by kernel_rfl) pq (by rfl) (by intro w'; go_simp; with_reducible rfl) (by simp only [Act.put, ea, eb, ec, zp, zq]; rfl) ?_
       refine take_ (i := 3) (N := some 51) (v := ?_) (a' := ?_) (fm 23 5) rfl rfl (zaa HT_.out HW_.out (by kernel_rfl)) (fun _ _ _ h => h) (Or.inl ⟨by rfl, ?_⟩) hHeld ?_ ?_
       rotate_left
       ·rintro w' ⟨s0, s1, s2, s3, s4, s5, s6, s7, s8, s9, s10, s11, s12, s13, s14, s15, s16, s17, s18, s19, s20, s21, s22, s23, s24, s25, s26, s27, s28, s29, s30, s31, s32, s33, s34, s35, s36, s37, s38, s39, s40, s41, s42, s43⟩
        go_simp
        with_reducible rfl
       rotate_left
       ·simp only [Act.put, List.setIfInBounds_toArray, List.set_cons_zero, List.set_cons_succ, zp, zq]
        rfl
       refine pb 5 53 (fm 23 6) rfl rfl HT_.out (by kernel_rfl) pq (by rfl) (by intro w'; go_simp; with_reducible rfl) (by simp only [Act.put, ea, eb, ec, zp, zq]; rfl) ?_
       refine pb 6 54 (fm 23 7) rfl rfl HT_.out (by kernel_rfl) pq (by rfl) (by intro w'; go_simp; with_reducible rfl) (by simp only [Act.put, ea, eb, ec, zp, zq]; rfl) ?_
       refine pb 8 56 #[T, T, T, T, T, T, T, F, T, F, F, F, F, F, F, F, F, F, F, F, F, F, F] rfl rfl HT_.out (by kernel_rfl) pq (by rfl) (by intro w'; go_simp; with_reducible rfl) (by simp only [Act.put, ea, eb, ec, zp, zq]; rfl) ?_
       refine pb 9 57 #[T, T, T, T, T, T, T, F, T, T, F, F, F, F, F, F, F, F, F, F, F, F, F] rfl rfl HT_.out (by kernel_rfl) pq (by rfl) (by intro w'; go_simp; with_reducible rfl) (by simp only [Act.put, ea, eb, ec, zp, zq]; rfl) ?_
       refine pb 10 58 #[T, T, T, T, T, T, T, F, T, T, T, F, F, F, F, F, F, F, F, F, F, F, F] rfl rfl HT_.out (by kernel_rfl) pq (by rfl) (by intro w'; go_simp; with_reducible rfl) (by simp only [Act.put, ea, eb, ec, zp, zq]; rfl) ?_
       refine take_ (i := 7) (N := some 55) (v := ?_) (a' := ?_) (fm 23 11) rfl rfl (zaa HT_.out HW_.out (by kernel_rfl)) (fun _ _ _ h => h) (Or.inl ⟨by rfl, ?_⟩) hHeld ?_ ?_
       rotate_left
       ·rintro w' ⟨s0, s1, s2, s3, s4, s5, s6, s7, s8, s9, s10, s11, s12, s13, s14, s15, s16, s17, s18, s19, s20, s21, s22, s23, s24, s25, s26, s27, s28, s29, s30, s31, s32, s33, s34, s35, s36, s37, s38, s39, s40, s41, s42, s43⟩
        go_simp
        with_reducible rfl
       rotate_left
       ·simp only [Act.put, List.setIfInBounds_toArray, List.set_cons_zero, List.set_cons_succ, zp, zq]
        rfl
       refine take_ (i := 11) (N := some 59) (v := ?_) (a' := ?_) (fm 23 12) rfl rfl (zaa HT_.out HW_.out (by kernel_rfl)) (fun _ _ _ h => h) (Or.inl ⟨by rfl, ?_⟩) hHeld ?_ ?_
       rotate_left
       ·rintro w' ⟨s0, s1, s2, s3, s4, s5, s6, s7, s8, s9, s10, s11, s12, s13, s14, s15, s16, s17, s18, s19, s20, s21, s22, s23, s24, s25, s26, s27, s28, s29, s30, s31, s32, s33, s34, s35, s36, s37, s38, s39, s40, s41, s42, s43⟩
        go_simp
        with_reducible rfl
       rotate_left
       ·simp only [Act.put, List.setIfInBounds_toArray, List.set_cons_zero, List.set_cons_succ, zp, zq]
        rfl
       refine one_ (i := 12) (N := some 60) (fm 23 13) rfl rfl (one_of HT_.out (by kernel_rfl)) (by decide) (fun K hK => ?_)
       refine goes_ Try.func55 (by kernel_rfl) rfl #[.agg #[.int .i8 a0_0, .int .i8 a0_1, .bool a0_2, .bool a0_3], .agg #[.int .i8 ((rd_T54 l1 x5_1).f0.f0), .int .i8 ((rd_T54 l1 x5_1).f0.f1), .int .i8 ((rd_T54 l1 x5_1).f0.f2), .int .i8 ((rd_T54 l1 x5_1).f0.f3), .int .i8 ((rd_T54 l1 x5_1).f0.f4), .int .i8 ((rd_T54 l1 x5_1).f0.f5), .int .i8 ((rd_T54 l1 x5_1).f0.f6), .int .i8 ((rd_T54 l1 x5_1).f0.f7), .int .i8 ((rd_T54 l1 x5_1).f0.f8), .int .i8 ((rd_T54 l1 x5_1).f0.f9), .int .i8 ((rd_T54 l1 x5_1).f0.f10), .int .i8 ((rd_T54 l1 x5_1).f0.f11), .int .i8 ((rd_T54 l1 x5_1).f0.f12), .int .i8 ((rd_T54 l1 x5_1).f0.f13)]] (by rfl) rfl rfl (by (try simp only [List.map_toArray, List.map_cons, List.map_nil]); first | done | rfl | (simp only [List.length_drop, List.length_take]; rfl)) ?_
       with_reducible refine (spec_l03Weighing.calls k1 a0_0 a0_1 a0_2 a0_3 ((rd_T54 l1 x5_1).f0.f0) ((rd_T54 l1 x5_1).f0.f1) ((rd_T54 l1 x5_1).f0.f2) ((rd_T54 l1 x5_1).f0.f3) ((rd_T54 l1 x5_1).f0.f4) ((rd_T54 l1 x5_1).f0.f5) ((rd_T54 l1 x5_1).f0.f6) ((rd_T54 l1 x5_1).f0.f7) ((rd_T54 l1 x5_1).f0.f8) ((rd_T54 l1 x5_1).f0.f9) ((rd_T54 l1 x5_1).f0.f10) ((rd_T54 l1 x5_1).f0.f11) ((rd_T54 l1 x5_1).f0.f12) ((rd_T54 l1 x5_1).f0.f13) false _ A23.out).mono ?_
       rintro e w28 ⟨rfl, hb⟩
       refine ⟨_, rfl, ?_⟩
       have n0_ := zd.mk (zj (by (with_reducible repeat (first | refine zf ?_ _ | refine zh ?_ | refine zg ?_ _)); exact BK140.out) hb)
       have n1_ := zd.mk (zk (by repeat (first | (with_reducible first | exact HB.out | apply zc | apply za | apply zb | refine ze ?_ GE140.out) | exact HB.out)) hb)
       clear BK140
       clear HB
       have BK140 := n0_
       have HB := n1_
       clear n0_ n1_
       (try clear hb)
       (try clear hb2)
       (try clear hk)
       (try clear hi)
       refine hK.out _ _ ⟨(zl BK140.out 0).trans rfl, (zl BK140.out 1).trans rfl, (zl BK140.out 2).trans rfl, (zl BK140.out 3).trans rfl, (bc HB.out v4_0), (bc HB.out v4_1), (bc HB.out v4_2), (bc HB.out v4_3), (bc HB.out v4_4), (bc HB.out v4_5), (bc HB.out v4_6), (bc HB.out v4_7), (bc HB.out v4_8), (bc HB.out v4_9), (bc HB.out v4_10), (bc HB.out v4_11), (bc HB.out v4_12), (bc HB.out v4_13), (bc HB.out v4_14), (bc HB.out v4_15), (bc HB.out v4_16), (bc HB.out v4_17), (by first | exact (bc HB.out v4_18) | (have h_ := (bc HB.out v4_18); rw [← Nbq8.out] at h_; exact h_)), (by first | exact (bc HB.out v4_19) | (have h_ := (bc HB.out v4_19); rw [← Nbq8.out] at h_; exact h_)), (bc HB.out v5_0), (bc HB.out v5_1), (bc HB.out v5_2), (bc HB.out v5_3), (bc HB.out v5_4), (bc HB.out v5_5), (bc HB.out v5_6), (bc HB.out v5_7), (bc HB.out v5_8), (bc HB.out v5_9), (bc HB.out v5_10), (bc HB.out v5_11), (bc HB.out v5_12), (bc HB.out v5_13), (bc HB.out v5_14), (bc HB.out v5_15), (bc HB.out v5_16), (bc HB.out v5_17), (by first | exact (bc HB.out v5_18) | (have h_ := (bc HB.out v5_18); rw [← Nbq8.out] at h_; exact h_)), (by first | exact (bc HB.out v5_19) | (have h_ := (bc HB.out v5_19); rw [← Nbq8.out] at h_; exact h_))⟩ (fun hHeld => ?_)
       clear hK K
       refine norm_ (a' := ?_) ?_ ?_
       rotate_left
       ·show Act.put _ (some 60) _ = _
        simp only [Act.put, List.setIfInBounds_toArray, List.set_cons_zero, List.set_cons_succ, zp, zq]
        rfl
       refine pb 13 61 (fm 23 14) rfl rfl HT_.out (by kernel_rfl) pq (by rfl) (by intro w'; go_simp; with_reducible rfl) (by simp only [Act.put, ea, eb, ec, zp, zq]; rfl) ?_
       refine pb 14 62 (fm 23 15) rfl rfl HT_.out (by kernel_rfl) pq (by rfl) (by intro w'; go_simp; with_reducible rfl) (by simp only [Act.put, ea, eb, ec, zp, zq]; rfl) ?_
       refine pb 15 63 (fm 23 16) rfl rfl HT_.out (by kernel_rfl) pq (by rfl) (by intro w'; go_simp; with_reducible rfl) (by simp only [Act.put, ea, eb, ec, zp, zq]; rfl) ?_
       refine pc 16 64 (fm 23 17) rfl rfl HT_.out (by kernel_rfl) pq (by rfl) rfl (by simp only [Act.put, ea, eb, ec, zp, zq]; rfl) ?_
       refine pc 17 65 (fm 23 18) rfl rfl HT_.out (by kernel_rfl) pq (by rfl) rfl (by simp only [Act.put, ea, eb, ec, zp, zq]; rfl) ?_
       refine pc 18 66 (fm 23 19) rfl rfl HT_.out (by kernel_rfl) pq (by rfl) rfl (by simp only [Act.put, ea, eb, ec, zp, zq]; rfl) ?_
       refine pc 19 67 (fm 23 20) rfl rfl HT_.out (by kernel_rfl) pq (by rfl) rfl (by simp only [Act.put, ea, eb, ec, zp, zq]; rfl) ?_
       refine pc 20 68 (fm 23 21) rfl rfl HT_.out (by kernel_rfl) pq (by rfl) rfl (by simp only [Act.put, ea, eb, ec, zp, zq]; rfl) ?_
       refine pc 21 69 (fm 23 22) rfl rfl HT_.out (by kernel_rfl) pq (by rfl) rfl (by simp only [Act.put, ea, eb, ec, zp, zq]; rfl) ?_
       refine pb 22 70 (fm 23 23) rfl rfl HT_.out (by kernel_rfl) pq (by rfl) (by intro w'; go_simp; with_reducible rfl) (by simp only [Act.put, ea, eb, ec, zp, zq]; rfl) ?_
       refine done_ (done_of HT_.out (by kernel_rfl)) ?_
       try go_wp2
       go_meet
       case rel => exact ⟨_, (true), (by first | rfl | (simp; done) | (simp [*]; done)), H', ⟨by have := HK1.out; first | omega | exact Nat.le_refl _⟩, ⟨by (with_reducible repeat (first | refine zf ?_ _ | refine zh ?_ | refine zg ?_ _)); exact BK140.out⟩, ⟨by repeat (first | (with_reducible first | exact HB.out | apply zc | apply za | apply zb | refine ze ?_ GE140.out) | exact HB.out)⟩⟩
      case rest =>
       clear HC20
       try clear p1
       try clear q1
       try clear hx1
       try clear c2
       try clear p2
       try clear c5
       try clear q8
       try clear p14
       try clear q14
       try clear hx14
       try clear p15
       try clear q15
       try clear hx15
       try clear c24
       try clear u5_0
       try clear u5_1
       try clear u5_10
       try clear u5_11
       try clear u5_12
       try clear u5_13
       try clear u5_14
       try clear u5_15
       try clear u5_16
       try clear u5_17
       try clear u5_18
       try clear u5_19
       try clear u5_2
       try clear u5_3
       try clear u5_4
       try clear u5_5
       try clear u5_6
       try clear u5_7
       try clear u5_8
       try clear u5_9
       try clear u6_0
       try clear u6_1
       try clear u6_10
       try clear u6_11
       try clear u6_12
       try clear u6_13
       try clear u6_14
       try clear u6_15
       try clear u6_16
       try clear u6_17
       try clear u6_18
       try clear u6_19
       try clear u6_2
       try clear u6_3
       try clear u6_4
       try clear u6_5
       try clear u6_6
       try clear u6_7
       try clear u6_8
       try clear u6_9
       try clear u7_0
       try clear u7_1
       try clear u7_10
       try clear u7_11
       try clear u7_12
       try clear u7_13
       try clear u7_14
       try clear u7_15
       try clear u7_16
       try clear u7_17
       try clear u7_18
       try clear u7_19
       try clear u7_2
       try clear u7_3
       try clear u7_4
       try clear u7_5
       try clear u7_6
       try clear u7_7
       try clear u7_8
       try clear u7_9
       try clear p147
       try clear p148
       try clear p150
       try clear q147
       try clear q148
       try clear q150
       obtain ⟨kq, x70_19, rfl, HA, HJ19, BK140, HB⟩ := hcut
       cases kq with
       | zero => exact absurd HA.out (by simp [spec_l03Plan.j1])
       | succ kj19 =>
        have H := HA.out
        clear HA
        simp only [spec_l03Plan.j1] at H
        by_cases c29 : x70_19 = true
        ·subst c29
         have H1 : (some false) = some r := by rw [if_pos rfl] at H; exact H
         clear H
         have H := H1
         clear H1
         obtain rfl := Option.some.inj H
         go_wp2
         go_ret
         exact ⟨by first | rfl | (simp [errW_none, errW_some] <;> rfl) | (simp [*, errW_none, errW_some] <;> rfl), by repeat (first | (with_reducible first | exact HB.out | apply zc | apply za | apply zb | refine ze ?_ GE140.out) | exact HB.out)⟩
        replace c29 := Bool.eq_false_iff.mpr c29
        subst c29
        have H1 : (spec_l03Plan.l1 kj19 l1 x5_1 0 a0_0 a0_1 a0_2 a0_3) = some r := by rw [if_neg (show ¬ (false = true) by decide)] at H; exact H
        clear H
        have H := H1
        clear H1
        have H' := zd.mk H
        clear H
        go_wp2
        go_loopg [7] kj19 (fun kq v7 w' => ∃ (x7_3 : Int), v7 = .int .i64 x7_3 ∧ zd (spec_l03Plan.l1 kq l1 x5_1 x7_3 a0_0 a0_1 a0_2 a0_3 = some r) ∧ zd (kq ≤ kj19) ∧ zd (w'.heap[gb140]? = some (.cells #[.int .i8 a0_0, .int .i8 a0_1, .bool a0_2, .bool a0_3] 29 (0, 0))) ∧ zd (Below w.heap.size w w'))
        case atStart => exact ⟨(0), (by first | rfl | (simp; done) | (simp [*]; done)), H', ⟨Nat.le_refl _⟩, ⟨by (with_reducible repeat (first | refine zf ?_ _ | refine zh ?_ | refine zg ?_ _)); exact BK140.out⟩, ⟨by repeat (first | (with_reducible first | exact HB.out | apply zc | apply za | apply zb | refine ze ?_ GE140.out) | exact HB.out)⟩⟩
        case round =>
         clear H'
         try clear p1
         try clear q1
         try clear hx1
         try clear c2
         try clear p2
         try clear c5
         try clear q8
         try clear p14
         try clear q14
         try clear hx14
         try clear p15
         try clear q15
         try clear hx15
         try clear c24
         try clear c29
         try clear u5_0
         try clear u5_1
         try clear u5_10
         try clear u5_11
         try clear u5_12
         try clear u5_13
         try clear u5_14
         try clear u5_15
         try clear u5_16
         try clear u5_17
         try clear u5_18
         try clear u5_19
         try clear u5_2
         try clear u5_3
         try clear u5_4
         try clear u5_5
         try clear u5_6
         try clear u5_7
         try clear u5_8
         try clear u5_9
         try clear u6_0
         try clear u6_1
         try clear u6_10
         try clear u6_11
         try clear u6_12
         try clear u6_13
         try clear u6_14
         try clear u6_15
         try clear u6_16
         try clear u6_17
         try clear u6_18
         try clear u6_19
         try clear u6_2
         try clear u6_3
         try clear u6_4
         try clear u6_5
         try clear u6_6
         try clear u6_7
         try clear u6_8
         try clear u6_9
         try clear u7_0
         try clear u7_1
         try clear u7_10
         try clear u7_11
         try clear u7_12
         try clear u7_13
         try clear u7_14
         try clear u7_15
         try clear u7_16
         try clear u7_17
         try clear u7_18
         try clear u7_19
         try clear u7_2
         try clear u7_3
         try clear u7_4
         try clear u7_5
         try clear u7_6
         try clear u7_7
         try clear u7_8
         try clear u7_9
         try clear p1
         try clear p14
         try clear p147
         try clear p148
         try clear p15
         try clear p150
         try clear p2
         try clear q1
         try clear q14
         try clear q147
         try clear q148
         try clear q15
         try clear q150
         try clear q8
         obtain ⟨x7_3, rfl, HA, HK3, BK140, HB⟩ := hrel
         cases gk with
         | zero => exact absurd HA.out (by simp [spec_l03Plan.l1])
         | succ k3 =>
          have H := HA.out
          clear HA
          simp only [spec_l03Plan.l1] at H
          by_cases c30 : x7_3 < 3
          ·rw [if_pos c30] at H
           have c30b0 : decide (x7_3 < 3) = true := decide_eq_true c30
           clear c30
           by_cases c31 : 0 ≤ x7_3
           ·rw [if_pos c31] at H
            have c31b0 : decide (0 ≤ x7_3) = true := decide_eq_true c31
            clear c31
            by_cases c32 : (wrap64 (rd [(rd_T54 l1 x5_1).f1.f0, (rd_T54 l1 x5_1).f1.f1, (rd_T54 l1 x5_1).f1.f2] x7_3)) ≤ x5_1
            ·rw [if_pos c32] at H
             have c32b0 : decide ((wrap64 (rd [(rd_T54 l1 x5_1).f1.f0, (rd_T54 l1 x5_1).f1.f1, (rd_T54 l1 x5_1).f1.f2] x7_3)) ≤ x5_1) = true := decide_eq_true c32
             (try (have c32b1 : decide ((IntKind.i64.wrap (rd [(rd_T54 l1 x5_1).f1.f0, (rd_T54 l1 x5_1).f1.f1, (rd_T54 l1 x5_1).f1.f2] x7_3)) ≤ x5_1) = true := by have h_ : decide ((wrap64 (rd [(rd_T54 l1 x5_1).f1.f0, (rd_T54 l1 x5_1).f1.f1, (rd_T54 l1 x5_1).f1.f2] x7_3)) ≤ x5_1) = true := decide_eq_true c32; simpa only [zp, zq] using h_))
             clear c32
             obtain rfl := Option.some.inj H
             have p151 : 0 ≤ (x5_1 : Int) := od (by first | (with_reducible assumption) | assumption)
             have q151 : x5_1 < (l1.length : Int) := od (by first | (with_reducible assumption) | assumption)
             obtain ⟨ad151, e151, u8_0, u8_1, u8_2, u8_3, u8_4, u8_5, u8_6, u8_7, u8_8, u8_9, u8_10, u8_11, u8_12, u8_13, u8_14, u8_15, u8_16, u8_17, u8_18, u8_19⟩ := ac_T54 HB.out HR1.out x5_1 p151 q151
             (try rw [← Nbq8.out] at u8_18)
             (try rw [← Nbq8.out] at u8_19)
             obtain rfl : ad142 = ad151 := (by injection e151)
             replace p151 := eq_true p151
             replace q151 := eq_true q151
             have u9_0 : wr.cell? ⟨(ad142.add ((x5_1).toNat * 20)).block, (ad142.add ((x5_1).toNat * 20)).off + 14 + (x7_3).toNat, none⟩ = some (.int .i16 (rd [(rd_T54 l1 x5_1).f1.f0, (rd_T54 l1 x5_1).f1.f1, (rd_T54 l1 x5_1).f1.f2] x7_3)) := by rcases (show (x7_3 : Int) = 0 ∨ (x7_3 : Int) = 1 ∨ (x7_3 : Int) = 2 by have hp_ : 0 ≤ (x7_3 : Int) := od (by first | (with_reducible assumption) | assumption); have hq_ : x7_3 < (3 : Int) := od (by first | (with_reducible assumption) | assumption); omega) with h_ | h_ | h_ <;> rw [h_] <;> first | exact u8_14 | exact u8_15 | exact u8_16
             have p33 : 0 ≤ (x7_3 : Int) := od (by first | (with_reducible assumption) | assumption)
             have q33 : x7_3 < (3 : Int) := od (by first | (with_reducible assumption) | assumption)
             replace p33 := eq_true p33
             replace q33 := eq_true q33
             go_wp2
             go_ret
             exact ⟨by first | rfl | (simp [errW_none, errW_some] <;> rfl) | (simp [*, errW_none, errW_some] <;> rfl), by repeat (first | (with_reducible first | exact HB.out | apply zc | apply za | apply zb | refine ze ?_ GE140.out) | exact HB.out)⟩
            rw [if_neg c32] at H
            have c32b0 : decide ((wrap64 (rd [(rd_T54 l1 x5_1).f1.f0, (rd_T54 l1 x5_1).f1.f1, (rd_T54 l1 x5_1).f1.f2] x7_3)) ≤ x5_1) = false := decide_eq_false c32
            (try (have c32b1 : decide ((IntKind.i64.wrap (rd [(rd_T54 l1 x5_1).f1.f0, (rd_T54 l1 x5_1).f1.f1, (rd_T54 l1 x5_1).f1.f2] x7_3)) ≤ x5_1) = false := by have h_ : decide ((wrap64 (rd [(rd_T54 l1 x5_1).f1.f0, (rd_T54 l1 x5_1).f1.f1, (rd_T54 l1 x5_1).f1.f2] x7_3)) ≤ x5_1) = false := decide_eq_false c32; simpa only [zp, zq] using h_))
            clear c32
            by_cases c34 : (wrap64 (rd [(rd_T54 l1 x5_1).f1.f0, (rd_T54 l1 x5_1).f1.f1, (rd_T54 l1 x5_1).f1.f2] x7_3)) ≥ (l1.length : Int)
            ·rw [if_pos c34] at H
             have c34b0 : decide ((l1.length : Int) ≤ (wrap64 (rd [(rd_T54 l1 x5_1).f1.f0, (rd_T54 l1 x5_1).f1.f1, (rd_T54 l1 x5_1).f1.f2] x7_3))) = true := decide_eq_true c34
             (try (have c34b1 : decide ((l1.length : Int) ≤ (IntKind.i64.wrap (rd [(rd_T54 l1 x5_1).f1.f0, (rd_T54 l1 x5_1).f1.f1, (rd_T54 l1 x5_1).f1.f2] x7_3))) = true := by have h_ : decide ((l1.length : Int) ≤ (wrap64 (rd [(rd_T54 l1 x5_1).f1.f0, (rd_T54 l1 x5_1).f1.f1, (rd_T54 l1 x5_1).f1.f2] x7_3))) = true := decide_eq_true c34; simpa only [zp, zq] using h_))
             clear c34
             obtain rfl := Option.some.inj H
             have p151 : 0 ≤ (x5_1 : Int) := od (by first | (with_reducible assumption) | assumption)
             have q151 : x5_1 < (l1.length : Int) := od (by first | (with_reducible assumption) | assumption)
             obtain ⟨ad151, e151, u8_0, u8_1, u8_2, u8_3, u8_4, u8_5, u8_6, u8_7, u8_8, u8_9, u8_10, u8_11, u8_12, u8_13, u8_14, u8_15, u8_16, u8_17, u8_18, u8_19⟩ := ac_T54 HB.out HR1.out x5_1 p151 q151
             (try rw [← Nbq8.out] at u8_18)
             (try rw [← Nbq8.out] at u8_19)
             obtain rfl : ad142 = ad151 := (by injection e151)
             replace p151 := eq_true p151
             replace q151 := eq_true q151
             have u10_0 : wr.cell? ⟨(ad142.add ((x5_1).toNat * 20)).block, (ad142.add ((x5_1).toNat * 20)).off + 14 + (x7_3).toNat, none⟩ = some (.int .i16 (rd [(rd_T54 l1 x5_1).f1.f0, (rd_T54 l1 x5_1).f1.f1, (rd_T54 l1 x5_1).f1.f2] x7_3)) := by rcases (show (x7_3 : Int) = 0 ∨ (x7_3 : Int) = 1 ∨ (x7_3 : Int) = 2 by have hp_ : 0 ≤ (x7_3 : Int) := od (by first | (with_reducible assumption) | assumption); have hq_ : x7_3 < (3 : Int) := od (by first | (with_reducible assumption) | assumption); omega) with h_ | h_ | h_ <;> rw [h_] <;> first | exact u8_14 | exact u8_15 | exact u8_16
             have p35 : 0 ≤ (x7_3 : Int) := od (by first | (with_reducible assumption) | assumption)
             have q35 : x7_3 < (3 : Int) := od (by first | (with_reducible assumption) | assumption)
             replace p35 := eq_true p35
             replace q35 := eq_true q35
             have p153 : 0 ≤ (x5_1 : Int) := od (by first | (with_reducible assumption) | assumption)
             have q153 : x5_1 < (l1.length : Int) := od (by first | (with_reducible assumption) | assumption)
             obtain ⟨ad153, e153, u11_0, u11_1, u11_2, u11_3, u11_4, u11_5, u11_6, u11_7, u11_8, u11_9, u11_10, u11_11, u11_12, u11_13, u11_14, u11_15, u11_16, u11_17, u11_18, u11_19⟩ := ac_T54 HB.out HR1.out x5_1 p153 q153
             (try rw [← Nbq8.out] at u11_18)
             (try rw [← Nbq8.out] at u11_19)
             obtain rfl : ad142 = ad153 := (by injection e153)
             replace p153 := eq_true p153
             replace q153 := eq_true q153
             have u12_0 : wr.cell? ⟨(ad142.add ((x5_1).toNat * 20)).block, (ad142.add ((x5_1).toNat * 20)).off + 14 + (x7_3).toNat, none⟩ = some (.int .i16 (rd [(rd_T54 l1 x5_1).f1.f0, (rd_T54 l1 x5_1).f1.f1, (rd_T54 l1 x5_1).f1.f2] x7_3)) := by rcases (show (x7_3 : Int) = 0 ∨ (x7_3 : Int) = 1 ∨ (x7_3 : Int) = 2 by have hp_ : 0 ≤ (x7_3 : Int) := od (by first | (with_reducible assumption) | assumption); have hq_ : x7_3 < (3 : Int) := od (by first | (with_reducible assumption) | assumption); omega) with h_ | h_ | h_ <;> rw [h_] <;> first | exact u11_14 | exact u11_15 | exact u11_16
             have p36 : 0 ≤ (x7_3 : Int) := od (by first | (with_reducible assumption) | assumption)
             have q36 : x7_3 < (3 : Int) := od (by first | (with_reducible assumption) | assumption)
             replace p36 := eq_true p36
             replace q36 := eq_true q36
             go_wp2
             go_ret
             exact ⟨by first | rfl | (simp [errW_none, errW_some] <;> rfl) | (simp [*, errW_none, errW_some] <;> rfl), by repeat (first | (with_reducible first | exact HB.out | apply zc | apply za | apply zb | refine ze ?_ GE140.out) | exact HB.out)⟩
            rw [if_neg c34] at H
            have c34b0 : decide ((l1.length : Int) ≤ (wrap64 (rd [(rd_T54 l1 x5_1).f1.f0, (rd_T54 l1 x5_1).f1.f1, (rd_T54 l1 x5_1).f1.f2] x7_3))) = false := decide_eq_false c34
            (try (have c34b1 : decide ((l1.length : Int) ≤ (IntKind.i64.wrap (rd [(rd_T54 l1 x5_1).f1.f0, (rd_T54 l1 x5_1).f1.f1, (rd_T54 l1 x5_1).f1.f2] x7_3))) = false := by have h_ : decide ((l1.length : Int) ≤ (wrap64 (rd [(rd_T54 l1 x5_1).f1.f0, (rd_T54 l1 x5_1).f1.f1, (rd_T54 l1 x5_1).f1.f2] x7_3))) = false := decide_eq_false c34; simpa only [zp, zq] using h_))
            clear c34
            have H' := zd.mk H
            clear H
            have p151 : 0 ≤ (x5_1 : Int) := od (by first | (with_reducible assumption) | assumption)
            have q151 : x5_1 < (l1.length : Int) := od (by first | (with_reducible assumption) | assumption)
            obtain ⟨ad151, e151, u8_0, u8_1, u8_2, u8_3, u8_4, u8_5, u8_6, u8_7, u8_8, u8_9, u8_10, u8_11, u8_12, u8_13, u8_14, u8_15, u8_16, u8_17, u8_18, u8_19⟩ := ac_T54 HB.out HR1.out x5_1 p151 q151
            (try rw [← Nbq8.out] at u8_18)
            (try rw [← Nbq8.out] at u8_19)
            obtain rfl : ad142 = ad151 := (by injection e151)
            replace p151 := eq_true p151
            replace q151 := eq_true q151
            have u13_0 : wr.cell? ⟨(ad142.add ((x5_1).toNat * 20)).block, (ad142.add ((x5_1).toNat * 20)).off + 14 + (x7_3).toNat, none⟩ = some (.int .i16 (rd [(rd_T54 l1 x5_1).f1.f0, (rd_T54 l1 x5_1).f1.f1, (rd_T54 l1 x5_1).f1.f2] x7_3)) := by rcases (show (x7_3 : Int) = 0 ∨ (x7_3 : Int) = 1 ∨ (x7_3 : Int) = 2 by have hp_ : 0 ≤ (x7_3 : Int) := od (by first | (with_reducible assumption) | assumption); have hq_ : x7_3 < (3 : Int) := od (by first | (with_reducible assumption) | assumption); omega) with h_ | h_ | h_ <;> rw [h_] <;> first | exact u8_14 | exact u8_15 | exact u8_16
            have p37 : 0 ≤ (x7_3 : Int) := od (by first | (with_reducible assumption) | assumption)
            have q37 : x7_3 < (3 : Int) := od (by first | (with_reducible assumption) | assumption)
            replace p37 := eq_true p37
            replace q37 := eq_true q37
            have p153 : 0 ≤ (x5_1 : Int) := od (by first | (with_reducible assumption) | assumption)
            have q153 : x5_1 < (l1.length : Int) := od (by first | (with_reducible assumption) | assumption)
            obtain ⟨ad153, e153, u11_0, u11_1, u11_2, u11_3, u11_4, u11_5, u11_6, u11_7, u11_8, u11_9, u11_10, u11_11, u11_12, u11_13, u11_14, u11_15, u11_16, u11_17, u11_18, u11_19⟩ := ac_T54 HB.out HR1.out x5_1 p153 q153
            (try rw [← Nbq8.out] at u11_18)
            (try rw [← Nbq8.out] at u11_19)
            obtain rfl : ad142 = ad153 := (by injection e153)
            replace p153 := eq_true p153
            replace q153 := eq_true q153
            have u14_0 : wr.cell? ⟨(ad142.add ((x5_1).toNat * 20)).block, (ad142.add ((x5_1).toNat * 20)).off + 14 + (x7_3).toNat, none⟩ = some (.int .i16 (rd [(rd_T54 l1 x5_1).f1.f0, (rd_T54 l1 x5_1).f1.f1, (rd_T54 l1 x5_1).f1.f2] x7_3)) := by rcases (show (x7_3 : Int) = 0 ∨ (x7_3 : Int) = 1 ∨ (x7_3 : Int) = 2 by have hp_ : 0 ≤ (x7_3 : Int) := od (by first | (with_reducible assumption) | assumption); have hq_ : x7_3 < (3 : Int) := od (by first | (with_reducible assumption) | assumption); omega) with h_ | h_ | h_ <;> rw [h_] <;> first | exact u11_14 | exact u11_15 | exact u11_16
            have p38 : 0 ≤ (x7_3 : Int) := od (by first | (with_reducible assumption) | assumption)
            have q38 : x7_3 < (3 : Int) := od (by first | (with_reducible assumption) | assumption)
            replace p38 := eq_true p38
            replace q38 := eq_true q38
            go_wp2
            go_roundg k3
            case measure => have := HK1.out; have := HJ19.out; have := HK3.out; omega
            case rel => exact ⟨(wrap64 (x7_3 + 1)), (by first | rfl | (simp; done) | (simp [*]; done)), H', ⟨by have := HK1.out; have := HJ19.out; have := HK3.out; omega⟩, ⟨by (with_reducible repeat (first | refine zf ?_ _ | refine zh ?_ | refine zg ?_ _)); exact BK140.out⟩, ⟨by repeat (first | (with_reducible first | exact HB.out | apply zc | apply za | apply zb | refine ze ?_ GE140.out) | exact HB.out)⟩⟩
           rw [if_neg c31] at H
           exact absurd H (by simp)
          rw [if_neg c30] at H
          have c30b0 : decide (x7_3 < 3) = false := decide_eq_false c30
          clear c30
          have H' := zd.mk H
          clear H
          go_wp2
          go_roundg k3
          case measure => have := HK1.out; have := HJ19.out; have := HK3.out; omega
          case rel => exact ⟨(wrap64 (x5_1 + 1)), (by first | rfl | (simp; done) | (simp [*]; done)), H', ⟨by have := HK1.out; have := HJ19.out; have := HK3.out; omega⟩, ⟨by (with_reducible repeat (first | refine zf ?_ _ | refine zh ?_ | refine zg ?_ _)); exact BK140.out⟩, ⟨by repeat (first | (with_reducible first | exact HB.out | apply zc | apply za | apply zb | refine ze ?_ GE140.out) | exact HB.out)⟩⟩
     rw [if_neg c7] at H
     exact absurd H (by simp)
    rw [if_neg c6] at H
    have c6b0 : decide (x5_1 < (l1.length : Int)) = false := decide_eq_false c6
    clear c6
    obtain rfl := Option.some.inj H
    go_wp2
    go_ret
    exact ⟨by first | rfl | (simp [errW_none, errW_some] <;> rfl) | (simp [*, errW_none, errW_some] <;> rfl), by repeat (first | (with_reducible first | exact HB.out | apply zc | apply za | apply zb | refine ze ?_ GE140.out) | exact HB.out)⟩
 replace c4 := Bool.eq_false_iff.mpr c4
 subst c4
 have H1 : (some false) = some r := by rw [if_neg (show ¬ (false = true) by decide)] at H; exact H
 clear H
 have H := H1
 clear H1
 obtain rfl := Option.some.inj H
 go_enter Try.func40, Try.ntmps40
 go_wp2_with (first | ((with_reducible refine zo (N := 2) rfl ?_); (try (refine gate_guard (by rfl) ?_; dsimp only)); refine zn ?hg (N := 2) ?hd (cs := #[.int .i8 a0_0, .int .i8 a0_1, .bool a0_2, .bool a0_3]) (t := 29) ?hr ?_; (case hd => rfl); (case hg => rfl); (case hr => first | (go_simp; done) | (go_simp; rfl)); intro gb140 hg w39 hbox hb; obtain ⟨n0_, n2_⟩ := bx (by repeat (first | (with_reducible first | exact HB.out | apply zc | apply za | apply zb) | exact HB.out)) hb hg; have n1_ := zd.mk (hbox); have n3_ := n2_; clear HB; have HB := n0_; have BK140 := n1_; have GW140 := n2_; have GE140 := n3_; clear n0_ n1_ n2_ n3_; clear hb hbox hg) | ((with_reducible refine zr (f := 37) rfl ?_); refine zx (some 10) rfl rfl Try.func37 (by kernel_rfl) rfl #[.int .i64 (l1.length : Int), .int .i64 1, .int .i64 400] rfl (by (try simp only [List.map_toArray, List.map_cons, List.map_nil]); first | done | rfl | (simp only [List.length_drop, List.length_take]; rfl)) ?_; (with_reducible refine (spec_l00In.calls (l1.length : Int) 1 400 false _ A3.out).mono ?_); rintro e w' ⟨rfl, ⟨nd, rfl⟩⟩; refine ⟨_, rfl, ?_⟩))
 go_ret
 exact ⟨by first | rfl | (simp [errW_none, errW_some] <;> rfl) | (simp [*, errW_none, errW_some] <;> rfl), by repeat (first | (with_reducible first | exact HB.out | apply zc | apply za | apply zb | refine ze ?_ GE140.out) | exact HB.out)⟩

end Go.Proofs.Ytmmonhpjjjdnjaa.U
