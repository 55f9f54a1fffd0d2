-- Written by wip/tools/myprint.py, a program of this session, by way of the kit's print.
import Derived.Test.YtmmonhpjjjdnjaaYx0
import Derived.Test.YtmmonhpjjjdnjaaLLoadY
import Derived.Test.YtmmonhpjjjdnjaaYx1
import Derived.Test.YtmmonhpjjjdnjaaYx2
import Derived.Test.YtmmonhpjjjdnjaaYx3
import Derived.Test.YtmmonhpjjjdnjaaYx10
import Derived.Test.YtmmonhpjjjdnjaaYx12
import Derived.Test.YtmmonhpjjjdnjaaYx13
namespace Go.Proofs.Ytmmonhpjjjdnjaa.Y
open Go.RowKit Go.Proofs.YtmmonhpjjjdnjaaW.PrintWords Go.Proofs.YtmmonhpjjjdnjaaW.PrintLast Go.Proofs.YtmmonhpjjjdnjaaW.PrintMore
attribute [local go_sem] zha zga zka zja zba zaa zea zfa   -- for this text's walks alone
set_option linter.unusedVariables false
set_option linter.unusedSimpArgs false

attribute [local go_sem high] eqA46 eqA50 eqA52
/-! ### spec_l03Plan: function 40 -/
mutual
def spec_l03Plan.l0 : Nat → List (S54) → Int → Int → Int → Bool → Bool → Option (Bool)
 | 0, _, _, _, _, _, _ => none
 | k + 1, x1, x5, x141000, x141001, x141002, x141003 => if x5 < (x1.length : Int) then (if 0 ≤ x5 then (if (rd_T54 x1 x5).f3 = true then (if (!(((rd_T54 x1 x5).f0.f0) == 0) || (!(((rd_T54 x1 x5).f0.f1) == 0) || (!(((rd_T54 x1 x5).f0.f2) == 0) || (!(((rd_T54 x1 x5).f0.f3) == 0) || (!(((rd_T54 x1 x5).f0.f4) == 0) || (!(((rd_T54 x1 x5).f0.f5) == 0) || (!(((rd_T54 x1 x5).f0.f6) == 0) || (!(((rd_T54 x1 x5).f0.f7) == 0) || (!(((rd_T54 x1 x5).f0.f8) == 0) || (!(((rd_T54 x1 x5).f0.f9) == 0) || (!(((rd_T54 x1 x5).f0.f10) == 0) || (!(((rd_T54 x1 x5).f0.f11) == 0) || (!(((rd_T54 x1 x5).f0.f12) == 0) || (!(((rd_T54 x1 x5).f0.f13) == 0))))))))))))))) = true then (some false) else (if (!(((rd_T54 x1 x5).f1.f0) == 0) || (!(((rd_T54 x1 x5).f1.f1) == 0) || (!(((rd_T54 x1 x5).f1.f2) == 0)))) = true then (some false) else ((spec_l03Find.f k x141000 x141001 x141002 x141003 ((rd_T54 x1 x5).f2.f0) ((rd_T54 x1 x5).f2.f1)).bind fun t146 => (if t146 < 0 then (some false) else (spec_l03Plan.l0 k x1 (wrap64 (x5 + 1)) x141000 x141001 x141002 x141003))))) else (if (((rd_T54 x1 x5).f0.f0) == 0 && (((rd_T54 x1 x5).f0.f1) == 0 && (((rd_T54 x1 x5).f0.f2) == 0 && (((rd_T54 x1 x5).f0.f3) == 0 && (((rd_T54 x1 x5).f0.f4) == 0 && (((rd_T54 x1 x5).f0.f5) == 0 && (((rd_T54 x1 x5).f0.f6) == 0 && (((rd_T54 x1 x5).f0.f7) == 0 && (((rd_T54 x1 x5).f0.f8) == 0 && (((rd_T54 x1 x5).f0.f9) == 0 && (((rd_T54 x1 x5).f0.f10) == 0 && (((rd_T54 x1 x5).f0.f11) == 0 && (((rd_T54 x1 x5).f0.f12) == 0 && (((rd_T54 x1 x5).f0.f13) == 0)))))))))))))) = true then (spec_l03Plan.j1 k x1 x5 true x141000 x141001 x141002 x141003) else ((spec_l03Weighing.f k x141000 x141001 x141002 x141003 ((rd_T54 x1 x5).f0.f0) ((rd_T54 x1 x5).f0.f1) ((rd_T54 x1 x5).f0.f2) ((rd_T54 x1 x5).f0.f3) ((rd_T54 x1 x5).f0.f4) ((rd_T54 x1 x5).f0.f5) ((rd_T54 x1 x5).f0.f6) ((rd_T54 x1 x5).f0.f7) ((rd_T54 x1 x5).f0.f8) ((rd_T54 x1 x5).f0.f9) ((rd_T54 x1 x5).f0.f10) ((rd_T54 x1 x5).f0.f11) ((rd_T54 x1 x5).f0.f12) ((rd_T54 x1 x5).f0.f13)).bind fun t149 => (if t149 = true then (spec_l03Plan.j1 k x1 x5 (!(((rd_T54 x1 x5).f2.f0) == 0) || (((rd_T54 x1 x5).f2.f1))) x141000 x141001 x141002 x141003) else (spec_l03Plan.j1 k x1 x5 true x141000 x141001 x141002 x141003))))) else (none)) else (some true)
def spec_l03Plan.j1 : Nat → List (S54) → Int → Bool → Int → Int → Bool → Bool → Option (Bool)
 | 0, _, _, _, _, _, _, _ => none
 | k + 1, x1, x5, x70, x141000, x141001, x141002, x141003 => if x70 = true then (some false) else (spec_l03Plan.l1 k x1 x5 0 x141000 x141001 x141002 x141003)
def spec_l03Plan.l1 : Nat → List (S54) → Int → Int → Int → Int → Bool → Bool → Option (Bool)
 | 0, _, _, _, _, _, _, _ => none
 | k + 1, x1, x5, x7, x141000, x141001, x141002, x141003 => if x7 < 3 then (if 0 ≤ x7 then (if (wrap64 (rd [(rd_T54 x1 x5).f1.f0, (rd_T54 x1 x5).f1.f1, (rd_T54 x1 x5).f1.f2] x7)) ≤ x5 then (some false) else (if (wrap64 (rd [(rd_T54 x1 x5).f1.f0, (rd_T54 x1 x5).f1.f1, (rd_T54 x1 x5).f1.f2] x7)) ≥ (x1.length : Int) then (some false) else (spec_l03Plan.l1 k x1 x5 (wrap64 (x7 + 1)) x141000 x141001 x141002 x141003))) else (none)) else (spec_l03Plan.l0 k x1 (wrap64 (x5 + 1)) x141000 x141001 x141002 x141003)
end
def spec_l03Plan.f (k : Nat) (a0_0 : Int) (a0_1 : Int) (a0_2 : Bool) (a0_3 : Bool) (l1 : List (S54)) : Option (Bool) := (spec_l00In.f (l1.length : Int) 1 400).bind fun t141 => (if t141 = true then (spec_l03Plan.l0 k l1 0 a0_0 a0_1 a0_2 a0_3) else (some false))
def spec_l03Plan.T8 : Bool × List (List Nat × List Nat) := (true, [([], []), ([0], [0]), ([1], [1]), ([2], [2]), ([], []), ([3, 4], [3, 4]), ([5], [5]), ([6], [6]), ([7, 6], [6, 7]), ([8, 6], [6, 8]), ([9, 6], [6, 9]), ([6], [6]), ([10, 11, 6], [6, 10, 11]), ([6, 12], [6, 12]), ([13, 6], [13]), ([14], [14]), ([14], [14]), ([16, 14], [14, 16]), ([17, 14], [14, 17]), ([18, 14], [14, 18]), ([15, 19, 14, 14], [14, 15, 19]), ([20, 14], [14, 20]), ([14, 21], [14, 21])])
def spec_l03Plan.B8 : List Nat := [0, 1, 3, 7, 0, 31, 63, 127, 255, 511, 1023, 127, 4095, 8191, 16383, 32767, 32767, 98303, 229375, 491519, 1048575, 2097151, 4194303]
theorem spec_l03Plan.tab8 : rtab .any (opsOf Try.f40 8) = spec_l03Plan.T8 := by kernel_rfl
theorem spec_l03Plan.bits8 : waitsOk spec_l03Plan.T8.2 spec_l03Plan.B8 = true := by kernel_rfl
def spec_l03Plan.T10 : Bool × List (List Nat × List Nat) := (true, [([], []), ([0], [0]), ([1], [1]), ([2], [2]), ([], []), ([3, 4], [3, 4]), ([5], [5]), ([6], [6]), ([6], [6]), ([8, 6], [6, 8]), ([9, 6], [6, 9]), ([10, 6], [6, 10]), ([7, 11, 6, 6], [6, 7, 11]), ([12, 6], [6, 12]), ([6, 13], [6, 13]), ([14, 12], [14]), ([15], [15]), ([16, 15], [15, 16]), ([17, 15], [15, 17]), ([18, 15], [15, 18]), ([15], [15]), ([19, 20, 15], [15, 19, 20]), ([15, 21], [15, 21])])
def spec_l03Plan.B10 : List Nat := [0, 1, 3, 7, 0, 31, 63, 127, 127, 383, 895, 1919, 4095, 8191, 16383, 32767, 65535, 131071, 262143, 524287, 65535, 2097151, 4194303]
theorem spec_l03Plan.tab10 : rtab .any (opsOf Try.f40 10) = spec_l03Plan.T10 := by kernel_rfl
theorem spec_l03Plan.bits10 : waitsOk spec_l03Plan.T10.2 spec_l03Plan.B10 = true := by kernel_rfl
set_option maxHeartbeats 8000000 in
set_option maxRecDepth 100000 in
theorem spec_l03Plan.calls (k : Nat) (a0_0 : Int) (a0_1 : Int) (a0_2 : Bool) (a0_3 : Bool) (A1 : Option Addr) (c1 : Nat) (l1 : List (S54)) (r : Bool) (w : World) (hr1 : Kd.C k54 w A1 l1.length l1) (hc1 : l1.length ≤ c1) (h : spec_l03Plan.f k a0_0 a0_1 a0_2 a0_3 l1 = some r) :
  Calls Try.prog 40 #[.agg #[.int .i8 a0_0, .int .i8 a0_1, .bool a0_2, .bool a0_3], .slice A1 l1.length c1] w fun e w' => e = .returned (.bool r) ∧ Below w.heap.size w w' := by
 have hu29 := Try.underlying29
 have hu50 := Try.underlying50
 have hu52 := Try.underlying52
 have hu46 := Try.underlying46
 have HR1 := zc.mk hr1
 have HC1 := zc.mk hc1
 clear hr1 hc1
 have HB := zc.mk (Below.refl w.heap.size w)
 have H : ((spec_l00In.f (l1.length : Int) 1 400).bind fun t141 => (if t141 = true then (spec_l03Plan.l0 k l1 0 a0_0 a0_1 a0_2 a0_3) else (some false))) = some r := h
 clear h
 replace H := Option.bind_eq_some_iff.mp H
 obtain ⟨t141, A30, H⟩ := H
 replace H : (if t141 = true then (spec_l03Plan.l0 k l1 0 a0_0 a0_1 a0_2 a0_3) else (some false)) = some r := H
 have A3 := zc.mk A30
 clear A30
 by_cases c4 : t141 = true
 ·subst c4
  have H1 : (spec_l03Plan.l0 k l1 0 a0_0 a0_1 a0_2 a0_3) = some r := by rw [if_pos rfl] at H; exact H
  clear H
  have H := H1
  clear H1
  have H' := zc.mk H
  clear H
  go_enter Try.func40, Try.ntmps40
  go_wp2_with (first | ((with_reducible refine zn (N := 2) rfl ?_); (try (refine gate_guard (by rfl) ?_; dsimp only)); refine zo ?hg (N := 2) ?hd (cs := #[.int .i8 a0_0, .int .i8 a0_1, .bool a0_2, .bool a0_3]) (t := 29) ?hr ?_; (case hd => rfl); (case hg => rfl); (case hr => first | (go_simp; done) | (go_simp; rfl)); intro gb140 hg w5 hbox hb; obtain ⟨n0_, n2_⟩ := bx (by repeat (first | (with_reducible first | exact HB.out | apply zd | apply za | apply zb) | exact HB.out)) hb hg; have n1_ := zc.mk (hbox); have n3_ := n2_; clear HB; have HB := n0_; have BK140 := n1_; have GW140 := n2_; have GE140 := n3_; clear n0_ n1_ n2_ n3_; clear hb hbox hg) | ((with_reducible refine zl (f := 37) rfl ?_); refine zw (some 10) rfl rfl Try.func37 (by kernel_rfl) rfl #[.int .i64 (l1.length : Int), .int .i64 1, .int .i64 400] rfl (by (try simp only [List.map_toArray, List.map_cons, List.map_nil]); first | done | rfl | (simp only [List.length_drop, List.length_take]; rfl)) ?_; (with_reducible refine (spec_l00In.calls (l1.length : Int) 1 400 true _ A3.out).mono ?_); rintro e w' ⟨rfl, ⟨nd, rfl⟩⟩; refine ⟨_, rfl, ?_⟩))
  go_loopg [5] k (fun kq v5 w' => ∃ (x5_1 : Int), v5 = .int .i64 x5_1 ∧ zc (spec_l03Plan.l0 kq l1 x5_1 a0_0 a0_1 a0_2 a0_3 = some r) ∧ zc (kq ≤ k) ∧ zc (w'.heap[gb140]? = some (.cells #[.int .i8 a0_0, .int .i8 a0_1, .bool a0_2, .bool a0_3] 29 (0, 0))) ∧ zc (Below w.heap.size w w'))
  case atStart => exact ⟨(0), (by first | rfl | (simp; done) | (simp [*]; done)), H', ⟨Nat.le_refl _⟩, ⟨by (with_reducible repeat (first | refine zf ?_ _ | refine zh ?_ | refine zg ?_ _)); exact BK140.out⟩, ⟨by repeat (first | (with_reducible first | exact HB.out | apply zd | apply za | apply zb | refine ze ?_ GE140.out) | exact HB.out)⟩⟩
  case round =>
   clear H'
   try clear c1
   try clear p2
   try clear c3
   try clear c4
   obtain ⟨x5_1, rfl, HA, HK1, BK140, HB⟩ := hrel
   cases gk with
   | zero => exact absurd HA.out (by simp [spec_l03Plan.l0])
   | succ k1 =>
    have H := HA.out
    clear HA
    simp only [spec_l03Plan.l0] at H
    by_cases c6 : x5_1 < (l1.length : Int)
    ·rw [if_pos c6] at H
     have c6b0 : decide (x5_1 < (l1.length : Int)) = true := decide_eq_true c6
     clear c6
     by_cases c7 : 0 ≤ x5_1
     ·rw [if_pos c7] at H
      have c7b0 : decide (0 ≤ x5_1) = true := decide_eq_true c7
      clear c7
      obtain ⟨bq8, hbq8⟩ : ∃ b_ : Bool, b_ = ((rd_T54 l1 x5_1).f3) := ⟨_, rfl⟩
      replace H : (if bq8 = true then (if (!(((rd_T54 l1 x5_1).f0.f0) == 0) || (!(((rd_T54 l1 x5_1).f0.f1) == 0) || (!(((rd_T54 l1 x5_1).f0.f2) == 0) || (!(((rd_T54 l1 x5_1).f0.f3) == 0) || (!(((rd_T54 l1 x5_1).f0.f4) == 0) || (!(((rd_T54 l1 x5_1).f0.f5) == 0) || (!(((rd_T54 l1 x5_1).f0.f6) == 0) || (!(((rd_T54 l1 x5_1).f0.f7) == 0) || (!(((rd_T54 l1 x5_1).f0.f8) == 0) || (!(((rd_T54 l1 x5_1).f0.f9) == 0) || (!(((rd_T54 l1 x5_1).f0.f10) == 0) || (!(((rd_T54 l1 x5_1).f0.f11) == 0) || (!(((rd_T54 l1 x5_1).f0.f12) == 0) || (!(((rd_T54 l1 x5_1).f0.f13) == 0))))))))))))))) = true then (some false) else (if (!(((rd_T54 l1 x5_1).f1.f0) == 0) || (!(((rd_T54 l1 x5_1).f1.f1) == 0) || (!(((rd_T54 l1 x5_1).f1.f2) == 0)))) = true then (some false) else ((spec_l03Find.f k1 a0_0 a0_1 a0_2 a0_3 ((rd_T54 l1 x5_1).f2.f0) ((rd_T54 l1 x5_1).f2.f1)).bind fun t146 => (if t146 < 0 then (some false) else (spec_l03Plan.l0 k1 l1 (wrap64 (x5_1 + 1)) a0_0 a0_1 a0_2 a0_3))))) else (if (((rd_T54 l1 x5_1).f0.f0) == 0 && (((rd_T54 l1 x5_1).f0.f1) == 0 && (((rd_T54 l1 x5_1).f0.f2) == 0 && (((rd_T54 l1 x5_1).f0.f3) == 0 && (((rd_T54 l1 x5_1).f0.f4) == 0 && (((rd_T54 l1 x5_1).f0.f5) == 0 && (((rd_T54 l1 x5_1).f0.f6) == 0 && (((rd_T54 l1 x5_1).f0.f7) == 0 && (((rd_T54 l1 x5_1).f0.f8) == 0 && (((rd_T54 l1 x5_1).f0.f9) == 0 && (((rd_T54 l1 x5_1).f0.f10) == 0 && (((rd_T54 l1 x5_1).f0.f11) == 0 && (((rd_T54 l1 x5_1).f0.f12) == 0 && (((rd_T54 l1 x5_1).f0.f13) == 0)))))))))))))) = true then (spec_l03Plan.j1 k1 l1 x5_1 true a0_0 a0_1 a0_2 a0_3) else ((spec_l03Weighing.f k1 a0_0 a0_1 a0_2 a0_3 ((rd_T54 l1 x5_1).f0.f0) ((rd_T54 l1 x5_1).f0.f1) ((rd_T54 l1 x5_1).f0.f2) ((rd_T54 l1 x5_1).f0.f3) ((rd_T54 l1 x5_1).f0.f4) ((rd_T54 l1 x5_1).f0.f5) ((rd_T54 l1 x5_1).f0.f6) ((rd_T54 l1 x5_1).f0.f7) ((rd_T54 l1 x5_1).f0.f8) ((rd_T54 l1 x5_1).f0.f9) ((rd_T54 l1 x5_1).f0.f10) ((rd_T54 l1 x5_1).f0.f11) ((rd_T54 l1 x5_1).f0.f12) ((rd_T54 l1 x5_1).f0.f13)).bind fun t149 => (if t149 = true then (spec_l03Plan.j1 k1 l1 x5_1 (!(((rd_T54 l1 x5_1).f2.f0) == 0) || (((rd_T54 l1 x5_1).f2.f1))) a0_0 a0_1 a0_2 a0_3) else (spec_l03Plan.j1 k1 l1 x5_1 true a0_0 a0_1 a0_2 a0_3))))) = some r := by rw [← hbq8] at H; exact H
      have Nbq8 := zc.mk hbq8
      clear hbq8
      by_cases c9 : bq8 = true
      ·subst c9
       have H1 : (if (!(((rd_T54 l1 x5_1).f0.f0) == 0) || (!(((rd_T54 l1 x5_1).f0.f1) == 0) || (!(((rd_T54 l1 x5_1).f0.f2) == 0) || (!(((rd_T54 l1 x5_1).f0.f3) == 0) || (!(((rd_T54 l1 x5_1).f0.f4) == 0) || (!(((rd_T54 l1 x5_1).f0.f5) == 0) || (!(((rd_T54 l1 x5_1).f0.f6) == 0) || (!(((rd_T54 l1 x5_1).f0.f7) == 0) || (!(((rd_T54 l1 x5_1).f0.f8) == 0) || (!(((rd_T54 l1 x5_1).f0.f9) == 0) || (!(((rd_T54 l1 x5_1).f0.f10) == 0) || (!(((rd_T54 l1 x5_1).f0.f11) == 0) || (!(((rd_T54 l1 x5_1).f0.f12) == 0) || (!(((rd_T54 l1 x5_1).f0.f13) == 0))))))))))))))) = true then (some false) else (if (!(((rd_T54 l1 x5_1).f1.f0) == 0) || (!(((rd_T54 l1 x5_1).f1.f1) == 0) || (!(((rd_T54 l1 x5_1).f1.f2) == 0)))) = true then (some false) else ((spec_l03Find.f k1 a0_0 a0_1 a0_2 a0_3 ((rd_T54 l1 x5_1).f2.f0) ((rd_T54 l1 x5_1).f2.f1)).bind fun t146 => (if t146 < 0 then (some false) else (spec_l03Plan.l0 k1 l1 (wrap64 (x5_1 + 1)) a0_0 a0_1 a0_2 a0_3))))) = some r := by rw [if_pos rfl] at H; exact H
       clear H
       have H := H1
       clear H1
       by_cases c10 : (!(((rd_T54 l1 x5_1).f0.f0) == 0) || (!(((rd_T54 l1 x5_1).f0.f1) == 0) || (!(((rd_T54 l1 x5_1).f0.f2) == 0) || (!(((rd_T54 l1 x5_1).f0.f3) == 0) || (!(((rd_T54 l1 x5_1).f0.f4) == 0) || (!(((rd_T54 l1 x5_1).f0.f5) == 0) || (!(((rd_T54 l1 x5_1).f0.f6) == 0) || (!(((rd_T54 l1 x5_1).f0.f7) == 0) || (!(((rd_T54 l1 x5_1).f0.f8) == 0) || (!(((rd_T54 l1 x5_1).f0.f9) == 0) || (!(((rd_T54 l1 x5_1).f0.f10) == 0) || (!(((rd_T54 l1 x5_1).f0.f11) == 0) || (!(((rd_T54 l1 x5_1).f0.f12) == 0) || (!(((rd_T54 l1 x5_1).f0.f13) == 0))))))))))))))) = true
       ·rw [if_pos c10] at H
        have c10b0 : (!(((rd_T54 l1 x5_1).f0.f0) == 0) || (!(((rd_T54 l1 x5_1).f0.f1) == 0) || (!(((rd_T54 l1 x5_1).f0.f2) == 0) || (!(((rd_T54 l1 x5_1).f0.f3) == 0) || (!(((rd_T54 l1 x5_1).f0.f4) == 0) || (!(((rd_T54 l1 x5_1).f0.f5) == 0) || (!(((rd_T54 l1 x5_1).f0.f6) == 0) || (!(((rd_T54 l1 x5_1).f0.f7) == 0) || (!(((rd_T54 l1 x5_1).f0.f8) == 0) || (!(((rd_T54 l1 x5_1).f0.f9) == 0) || (!(((rd_T54 l1 x5_1).f0.f10) == 0) || (!(((rd_T54 l1 x5_1).f0.f11) == 0) || (!(((rd_T54 l1 x5_1).f0.f12) == 0) || (!(((rd_T54 l1 x5_1).f0.f13) == 0))))))))))))))) = true := c10
        clear c10
        obtain rfl := Option.some.inj H
        have p142 : 0 ≤ (x5_1 : Int) := of_decide_eq_true (by first | (with_reducible assumption) | assumption)
        have q142 : x5_1 < (l1.length : Int) := of_decide_eq_true (by first | (with_reducible assumption) | assumption)
        obtain ⟨ad142, e142, hx142_0, hx142_1, hx142_2, hx142_3, hx142_4, hx142_5, hx142_6, hx142_7, hx142_8, hx142_9, hx142_10, hx142_11, hx142_12, hx142_13, hx142_14, hx142_15, hx142_16, hx142_17, hx142_18, hx142_19⟩ := ac_T54 HB.out HR1.out x5_1 p142 q142
        (try rw [← Nbq8.out] at hx142_18)
        (try rw [← Nbq8.out] at hx142_19)
        cases e142
        replace p142 := eq_true p142
        replace q142 := eq_true q142
        try go_wp2
        have n0_ := zc.mk (zh BK140.out)
        have n1_ := zc.mk (zb HB.out)
        clear BK140
        clear HB
        have BK140 := n0_
        have HB := n1_
        clear n0_ n1_
        have p143 : 0 ≤ (x5_1 : Int) := of_decide_eq_true (by first | (with_reducible assumption) | assumption)
        have q143 : x5_1 < (l1.length : Int) := of_decide_eq_true (by first | (with_reducible assumption) | assumption)
        obtain ⟨ad143, e143, hx143_0, hx143_1, hx143_2, hx143_3, hx143_4, hx143_5, hx143_6, hx143_7, hx143_8, hx143_9, hx143_10, hx143_11, hx143_12, hx143_13, hx143_14, hx143_15, hx143_16, hx143_17, hx143_18, hx143_19, hw143_0, hw143_1, hw143_2, hw143_3, hw143_4, hw143_5, hw143_6, hw143_7, hw143_8, hw143_9, hw143_10, hw143_11, hw143_12, hw143_13, hw143_14, hw143_15, hw143_16, hw143_17, hw143_18, hw143_19⟩ := ab_T54 HB.out HR1.out x5_1 p143 q143
        (try rw [← Nbq8.out] at hx143_18)
        (try rw [← Nbq8.out] at hx143_19)
        obtain rfl : ad142 = ad143 := (by injection e143)
        replace p143 := eq_true p143
        replace q143 := eq_true q143
        refine start_ (n := 23) (S := fun w' => w'.cell? (ad142.add ((x5_1).toNat * 20)) = some (.int .i8 ((rd_T54 l1 x5_1).f0.f0)) ∧ w'.cell? ⟨(ad142.add ((x5_1).toNat * 20)).block, (ad142.add ((x5_1).toNat * 20)).off + 1, none⟩ = some (.int .i8 ((rd_T54 l1 x5_1).f0.f1)) ∧ w'.cell? ⟨(ad142.add ((x5_1).toNat * 20)).block, (ad142.add ((x5_1).toNat * 20)).off + 2, none⟩ = some (.int .i8 ((rd_T54 l1 x5_1).f0.f2)) ∧ w'.cell? ⟨(ad142.add ((x5_1).toNat * 20)).block, (ad142.add ((x5_1).toNat * 20)).off + 3, none⟩ = some (.int .i8 ((rd_T54 l1 x5_1).f0.f3)) ∧ w'.cell? ⟨(ad142.add ((x5_1).toNat * 20)).block, (ad142.add ((x5_1).toNat * 20)).off + 4, none⟩ = some (.int .i8 ((rd_T54 l1 x5_1).f0.f4)) ∧ w'.cell? ⟨(ad142.add ((x5_1).toNat * 20)).block, (ad142.add ((x5_1).toNat * 20)).off + 5, none⟩ = some (.int .i8 ((rd_T54 l1 x5_1).f0.f5)) ∧ w'.cell? ⟨(ad142.add ((x5_1).toNat * 20)).block, (ad142.add ((x5_1).toNat * 20)).off + 6, none⟩ = some (.int .i8 ((rd_T54 l1 x5_1).f0.f6)) ∧ w'.cell? ⟨(ad142.add ((x5_1).toNat * 20)).block, (ad142.add ((x5_1).toNat * 20)).off + 7, none⟩ = some (.int .i8 ((rd_T54 l1 x5_1).f0.f7)) ∧ w'.cell? ⟨(ad142.add ((x5_1).toNat * 20)).block, (ad142.add ((x5_1).toNat * 20)).off + 8, none⟩ = some (.int .i8 ((rd_T54 l1 x5_1).f0.f8)) ∧ w'.cell? ⟨(ad142.add ((x5_1).toNat * 20)).block, (ad142.add ((x5_1).toNat * 20)).off + 9, none⟩ = some (.int .i8 ((rd_T54 l1 x5_1).f0.f9)) ∧ w'.cell? ⟨(ad142.add ((x5_1).toNat * 20)).block, (ad142.add ((x5_1).toNat * 20)).off + 10, none⟩ = some (.int .i8 ((rd_T54 l1 x5_1).f0.f10)) ∧ w'.cell? ⟨(ad142.add ((x5_1).toNat * 20)).block, (ad142.add ((x5_1).toNat * 20)).off + 11, none⟩ = some (.int .i8 ((rd_T54 l1 x5_1).f0.f11)) ∧ w'.cell? ⟨(ad142.add ((x5_1).toNat * 20)).block, (ad142.add ((x5_1).toNat * 20)).off + 12, none⟩ = some (.int .i8 ((rd_T54 l1 x5_1).f0.f12)) ∧ w'.cell? ⟨(ad142.add ((x5_1).toNat * 20)).block, (ad142.add ((x5_1).toNat * 20)).off + 13, none⟩ = some (.int .i8 ((rd_T54 l1 x5_1).f0.f13)) ∧ w'.cell? ⟨(ad142.add ((x5_1).toNat * 20)).block, (ad142.add ((x5_1).toNat * 20)).off + 14, none⟩ = some (.int .i16 ((rd_T54 l1 x5_1).f1.f0)) ∧ w'.cell? ⟨(ad142.add ((x5_1).toNat * 20)).block, (ad142.add ((x5_1).toNat * 20)).off + 15, none⟩ = some (.int .i16 ((rd_T54 l1 x5_1).f1.f1)) ∧ w'.cell? ⟨(ad142.add ((x5_1).toNat * 20)).block, (ad142.add ((x5_1).toNat * 20)).off + 16, none⟩ = some (.int .i16 ((rd_T54 l1 x5_1).f1.f2)) ∧ w'.cell? ⟨(ad142.add ((x5_1).toNat * 20)).block, (ad142.add ((x5_1).toNat * 20)).off + 17, none⟩ = some (.int .i8 ((rd_T54 l1 x5_1).f2.f0)) ∧ w'.cell? ⟨(ad142.add ((x5_1).toNat * 20)).block, (ad142.add ((x5_1).toNat * 20)).off + 18, none⟩ = some (.bool ((rd_T54 l1 x5_1).f2.f1)) ∧ w'.cell? ⟨(ad142.add ((x5_1).toNat * 20)).block, (ad142.add ((x5_1).toNat * 20)).off + 19, none⟩ = some (.bool (true))) (ds := []) (fm 23 0) (by kernel_rfl) rfl rfl ⟨(bc HB.out hw143_0), (bc HB.out hw143_1), (bc HB.out hw143_2), (bc HB.out hw143_3), (bc HB.out hw143_4), (bc HB.out hw143_5), (bc HB.out hw143_6), (bc HB.out hw143_7), (bc HB.out hw143_8), (bc HB.out hw143_9), (bc HB.out hw143_10), (bc HB.out hw143_11), (bc HB.out hw143_12), (bc HB.out hw143_13), (bc HB.out hw143_14), (bc HB.out hw143_15), (bc HB.out hw143_16), (bc HB.out hw143_17), (by first | exact (bc HB.out hw143_18) | (have h_ := (bc HB.out hw143_18); rw [← Nbq8.out] at h_; exact h_)), (by first | exact (bc HB.out hw143_19) | (have h_ := (bc HB.out hw143_19); rw [← Nbq8.out] at h_; exact h_))⟩ (fun hHeld => ?_); refine zma spec_l03Plan.tab8 spec_l03Plan.bits8 (fun HT_ HW_ => ?_)
        generalize wr.drew = w11 at BK140 HB hx143_0 hx143_1 hx143_10 hx143_11 hx143_12 hx143_13 hx143_14 hx143_15 hx143_16 hx143_17 hx143_18 hx143_19 hx143_2 hx143_3 hx143_4 hx143_5 hx143_6 hx143_7 hx143_8 hx143_9 hHeld ⊢
        refine pv 0 25 (fm 23 1) rfl rfl (zj HT_.out (by kernel_rfl)) (fun _ _ _ h => h) (Or.inl ⟨by rfl, by intro w'; go_simp; with_reducible rfl⟩) (by simp only [Act.put, ea, eb, ec, zm, zk]; rfl) ?_
        refine pv 1 26 (fm 23 2) rfl rfl (zj HT_.out (by kernel_rfl)) (fun _ _ _ h => h) (Or.inl ⟨by rfl, by intro w'; go_simp; with_reducible rfl⟩) (by simp only [Act.put, ea, eb, ec, zm, zk]; rfl) ?_
        refine pv 2 27 (fm 23 3) rfl rfl (zj HT_.out (by kernel_rfl)) (fun _ _ _ h => h) (Or.inl ⟨by rfl, by intro w'; go_simp; with_reducible rfl⟩) (by simp only [Act.put, ea, eb, ec, zm, zk]; rfl) ?_
        refine pv 4 29 #[T, T, T, F, T, F, F, F, F, F, F, F, F, F, F, F, F, F, F, F, F, F, F] rfl rfl (zj HT_.out (by kernel_rfl)) (fun _ _ _ h => h) (Or.inl ⟨by rfl, by intro w'; go_simp; with_reducible rfl⟩) (by simp only [Act.put, ea, eb, ec, zm, zk]; rfl) ?_
        refine take_ (i := 3) (N := some 28) (v := ?_) (a' := ?_) (fm 23 5) rfl rfl (zca HT_.out HW_.out (by kernel_rfl)) (fun _ _ _ h => h) (Or.inl ⟨by rfl, ?_⟩) hHeld ?_ ?_
        rotate_left
        ·rintro w' ⟨s0, s1, s2, s3, s4, s5, s6, s7, s8, s9, s10, s11, s12, s13, s14, s15, s16, s17, s18, s19⟩
         go_simp
         with_reducible rfl
        rotate_left
        ·simp only [Act.put, List.setIfInBounds_toArray, List.set_cons_zero, List.set_cons_succ, zm, zk]
         rfl
        refine pv 5 30 (fm 23 6) rfl rfl (zj HT_.out (by kernel_rfl)) (fun _ _ _ h => h) (Or.inl ⟨by rfl, by intro w'; go_simp; with_reducible rfl⟩) (by simp only [Act.put, ea, eb, ec, zm, zk]; rfl) ?_
        refine pv 6 31 (fm 23 7) rfl rfl (zj HT_.out (by kernel_rfl)) (fun _ _ _ h => h) (Or.inl ⟨by rfl, by intro w'; go_simp; with_reducible rfl⟩) (by simp only [Act.put, ea, eb, ec, zm, zk]; rfl) ?_
        refine pu 7 32 (fm 23 8) rfl rfl (zj HT_.out (by kernel_rfl)) (fun _ _ _ h => h) (Or.inr ⟨by rfl, rfl⟩) (by simp only [Act.put, ea, eb, ec, zm, zk]; rfl) ?_
        refine pu 8 33 (fm 23 9) rfl rfl (zj HT_.out (by kernel_rfl)) (fun _ _ _ h => h) (Or.inr ⟨by rfl, rfl⟩) (by simp only [Act.put, ea, eb, ec, zm, zk]; rfl) ?_
        refine pu 9 34 (fm 23 10) rfl rfl (zj HT_.out (by kernel_rfl)) (fun _ _ _ h => h) (Or.inr ⟨by rfl, rfl⟩) (by simp only [Act.put, ea, eb, ec, zm, zk]; rfl) ?_
        refine pu 10 35 (fm 23 11) rfl rfl (zj HT_.out (by kernel_rfl)) (fun _ _ _ h => h) (Or.inr ⟨by rfl, rfl⟩) (by simp only [Act.put, ea, eb, ec, zm, zk]; rfl) ?_
        refine pu 11 36 (fm 23 12) rfl rfl (zj HT_.out (by kernel_rfl)) (fun _ _ _ h => h) (Or.inr ⟨by rfl, rfl⟩) (by simp only [Act.put, ea, eb, ec, zm, zk]; rfl) ?_
        refine pu 12 37 (fm 23 13) rfl rfl (zj HT_.out (by kernel_rfl)) (fun _ _ _ h => h) (Or.inr ⟨by rfl, rfl⟩) (by simp only [Act.put, ea, eb, ec, zm, zk]; rfl) ?_
        refine pv 13 38 (fm 23 14) rfl rfl (zj HT_.out (by kernel_rfl)) (fun _ _ _ h => h) (Or.inl ⟨by rfl, by intro w'; go_simp; with_reducible rfl⟩) (by simp only [Act.put, ea, eb, ec, zm, zk]; rfl) ?_
        refine pv 14 39 (fm 23 15) rfl rfl (zj HT_.out (by kernel_rfl)) (fun _ _ _ h => h) (Or.inl ⟨by rfl, by intro w'; go_simp; with_reducible rfl⟩) (by simp only [Act.put, ea, eb, ec, zm, zk]; rfl) ?_
        refine pu 15 40 (fm 23 16) rfl rfl (zj HT_.out (by kernel_rfl)) (fun _ _ _ h => h) (Or.inr ⟨by rfl, rfl⟩) (by simp only [Act.put, ea, eb, ec, zm, zk]; rfl) ?_
        refine pu 16 41 (fm 23 17) rfl rfl (zj HT_.out (by kernel_rfl)) (fun _ _ _ h => h) (Or.inr ⟨by rfl, rfl⟩) (by simp only [Act.put, ea, eb, ec, zm, zk]; rfl) ?_
        refine pu 17 42 (fm 23 18) rfl rfl (zj HT_.out (by kernel_rfl)) (fun _ _ _ h => h) (Or.inr ⟨by rfl, rfl⟩) (by simp only [Act.put, ea, eb, ec, zm, zk]; rfl) ?_
        refine pu 18 43 (fm 23 19) rfl rfl (zj HT_.out (by kernel_rfl)) (fun _ _ _ h => h) (Or.inr ⟨by rfl, rfl⟩) (by simp only [Act.put, ea, eb, ec, zm, zk]; rfl) ?_
        refine pu 19 44 (fm 23 20) rfl rfl (zj HT_.out (by kernel_rfl)) (fun _ _ _ h => h) (Or.inr ⟨by rfl, rfl⟩) (by simp only [Act.put, ea, eb, ec, zm, zk]; rfl) ?_
        refine pu 20 45 (fm 23 21) rfl rfl (zj HT_.out (by kernel_rfl)) (fun _ _ _ h => h) (Or.inr ⟨by rfl, rfl⟩) (by simp only [Act.put, ea, eb, ec, zm, zk]; rfl) ?_
        refine pu 21 46 (fm 23 22) rfl rfl (zj HT_.out (by kernel_rfl)) (fun _ _ _ h => h) (Or.inr ⟨by rfl, rfl⟩) (by simp only [Act.put, ea, eb, ec, zm, zk]; rfl) ?_
        refine pv 22 47 (fm 23 23) rfl rfl (zj HT_.out (by kernel_rfl)) (fun _ _ _ h => h) (Or.inl ⟨by rfl, by intro w'; go_simp; with_reducible rfl⟩) (by simp only [Act.put, ea, eb, ec, zm, zk]; rfl) ?_
        refine done_ (done_of HT_.out (by kernel_rfl)) ?_
        try go_wp2
        go_ret
        exact ⟨by first | rfl | (simp [errW_none, errW_some] <;> rfl) | (simp [*, errW_none, errW_some] <;> rfl), by repeat (first | (with_reducible first | exact HB.out | apply zd | apply za | apply zb | refine ze ?_ GE140.out) | exact HB.out)⟩
       rw [if_neg c10] at H
       have c10b0 : (!(((rd_T54 l1 x5_1).f0.f0) == 0) || (!(((rd_T54 l1 x5_1).f0.f1) == 0) || (!(((rd_T54 l1 x5_1).f0.f2) == 0) || (!(((rd_T54 l1 x5_1).f0.f3) == 0) || (!(((rd_T54 l1 x5_1).f0.f4) == 0) || (!(((rd_T54 l1 x5_1).f0.f5) == 0) || (!(((rd_T54 l1 x5_1).f0.f6) == 0) || (!(((rd_T54 l1 x5_1).f0.f7) == 0) || (!(((rd_T54 l1 x5_1).f0.f8) == 0) || (!(((rd_T54 l1 x5_1).f0.f9) == 0) || (!(((rd_T54 l1 x5_1).f0.f10) == 0) || (!(((rd_T54 l1 x5_1).f0.f11) == 0) || (!(((rd_T54 l1 x5_1).f0.f12) == 0) || (!(((rd_T54 l1 x5_1).f0.f13) == 0))))))))))))))) = false := by simpa using c10
       clear c10
       by_cases c12 : (!(((rd_T54 l1 x5_1).f1.f0) == 0) || (!(((rd_T54 l1 x5_1).f1.f1) == 0) || (!(((rd_T54 l1 x5_1).f1.f2) == 0)))) = true
       ·rw [if_pos c12] at H
        have c12b0 : (!(((rd_T54 l1 x5_1).f1.f0) == 0) || (!(((rd_T54 l1 x5_1).f1.f1) == 0) || (!(((rd_T54 l1 x5_1).f1.f2) == 0)))) = true := c12
        clear c12
        obtain rfl := Option.some.inj H
        have p142 : 0 ≤ (x5_1 : Int) := of_decide_eq_true (by first | (with_reducible assumption) | assumption)
        have q142 : x5_1 < (l1.length : Int) := of_decide_eq_true (by first | (with_reducible assumption) | assumption)
        obtain ⟨ad142, e142, hx142_0, hx142_1, hx142_2, hx142_3, hx142_4, hx142_5, hx142_6, hx142_7, hx142_8, hx142_9, hx142_10, hx142_11, hx142_12, hx142_13, hx142_14, hx142_15, hx142_16, hx142_17, hx142_18, hx142_19⟩ := ac_T54 HB.out HR1.out x5_1 p142 q142
        (try rw [← Nbq8.out] at hx142_18)
        (try rw [← Nbq8.out] at hx142_19)
        cases e142
        replace p142 := eq_true p142
        replace q142 := eq_true q142
        try go_wp2
        have n0_ := zc.mk (zh BK140.out)
        have n1_ := zc.mk (zb HB.out)
        clear BK140
        clear HB
        have BK140 := n0_
        have HB := n1_
        clear n0_ n1_
        have p143 : 0 ≤ (x5_1 : Int) := of_decide_eq_true (by first | (with_reducible assumption) | assumption)
        have q143 : x5_1 < (l1.length : Int) := of_decide_eq_true (by first | (with_reducible assumption) | assumption)
        obtain ⟨ad143, e143, hx143_0, hx143_1, hx143_2, hx143_3, hx143_4, hx143_5, hx143_6, hx143_7, hx143_8, hx143_9, hx143_10, hx143_11, hx143_12, hx143_13, hx143_14, hx143_15, hx143_16, hx143_17, hx143_18, hx143_19, hw143_0, hw143_1, hw143_2, hw143_3, hw143_4, hw143_5, hw143_6, hw143_7, hw143_8, hw143_9, hw143_10, hw143_11, hw143_12, hw143_13, hw143_14, hw143_15, hw143_16, hw143_17, hw143_18, hw143_19⟩ := ab_T54 HB.out HR1.out x5_1 p143 q143
        (try rw [← Nbq8.out] at hx143_18)
        (try rw [← Nbq8.out] at hx143_19)
        obtain rfl : ad142 = ad143 := (by injection e143)
        replace p143 := eq_true p143
        replace q143 := eq_true q143
        have p144 : 0 ≤ (x5_1 : Int) := of_decide_eq_true (by first | (with_reducible assumption) | assumption)
        have q144 : x5_1 < (l1.length : Int) := of_decide_eq_true (by first | (with_reducible assumption) | assumption)
        obtain ⟨ad144, e144, hx144_0, hx144_1, hx144_2, hx144_3, hx144_4, hx144_5, hx144_6, hx144_7, hx144_8, hx144_9, hx144_10, hx144_11, hx144_12, hx144_13, hx144_14, hx144_15, hx144_16, hx144_17, hx144_18, hx144_19, hw144_0, hw144_1, hw144_2, hw144_3, hw144_4, hw144_5, hw144_6, hw144_7, hw144_8, hw144_9, hw144_10, hw144_11, hw144_12, hw144_13, hw144_14, hw144_15, hw144_16, hw144_17, hw144_18, hw144_19⟩ := ab_T54 HB.out HR1.out x5_1 p144 q144
        (try rw [← Nbq8.out] at hx144_18)
        (try rw [← Nbq8.out] at hx144_19)
        obtain rfl : ad142 = ad144 := (by injection e144)
        replace p144 := eq_true p144
        replace q144 := eq_true q144
        refine start_ (n := 23) (S := fun w' => w'.cell? (ad142.add ((x5_1).toNat * 20)) = some (.int .i8 ((rd_T54 l1 x5_1).f0.f0)) ∧ w'.cell? ⟨(ad142.add ((x5_1).toNat * 20)).block, (ad142.add ((x5_1).toNat * 20)).off + 1, none⟩ = some (.int .i8 ((rd_T54 l1 x5_1).f0.f1)) ∧ w'.cell? ⟨(ad142.add ((x5_1).toNat * 20)).block, (ad142.add ((x5_1).toNat * 20)).off + 2, none⟩ = some (.int .i8 ((rd_T54 l1 x5_1).f0.f2)) ∧ w'.cell? ⟨(ad142.add ((x5_1).toNat * 20)).block, (ad142.add ((x5_1).toNat * 20)).off + 3, none⟩ = some (.int .i8 ((rd_T54 l1 x5_1).f0.f3)) ∧ w'.cell? ⟨(ad142.add ((x5_1).toNat * 20)).block, (ad142.add ((x5_1).toNat * 20)).off + 4, none⟩ = some (.int .i8 ((rd_T54 l1 x5_1).f0.f4)) ∧ w'.cell? ⟨(ad142.add ((x5_1).toNat * 20)).block, (ad142.add ((x5_1).toNat * 20)).off + 5, none⟩ = some (.int .i8 ((rd_T54 l1 x5_1).f0.f5)) ∧ w'.cell? ⟨(ad142.add ((x5_1).toNat * 20)).block, (ad142.add ((x5_1).toNat * 20)).off + 6, none⟩ = some (.int .i8 ((rd_T54 l1 x5_1).f0.f6)) ∧ w'.cell? ⟨(ad142.add ((x5_1).toNat * 20)).block, (ad142.add ((x5_1).toNat * 20)).off + 7, none⟩ = some (.int .i8 ((rd_T54 l1 x5_1).f0.f7)) ∧ w'.cell? ⟨(ad142.add ((x5_1).toNat * 20)).block, (ad142.add ((x5_1).toNat * 20)).off + 8, none⟩ = some (.int .i8 ((rd_T54 l1 x5_1).f0.f8)) ∧ w'.cell? ⟨(ad142.add ((x5_1).toNat * 20)).block, (ad142.add ((x5_1).toNat * 20)).off + 9, none⟩ = some (.int .i8 ((rd_T54 l1 x5_1).f0.f9)) ∧ w'.cell? ⟨(ad142.add ((x5_1).toNat * 20)).block, (ad142.add ((x5_1).toNat * 20)).off + 10, none⟩ = some (.int .i8 ((rd_T54 l1 x5_1).f0.f10)) ∧ w'.cell? ⟨(ad142.add ((x5_1).toNat * 20)).block, (ad142.add ((x5_1).toNat * 20)).off + 11, none⟩ = some (.int .i8 ((rd_T54 l1 x5_1).f0.f11)) ∧ w'.cell? ⟨(ad142.add ((x5_1).toNat * 20)).block, (ad142.add ((x5_1).toNat * 20)).off + 12, none⟩ = some (.int .i8 ((rd_T54 l1 x5_1).f0.f12)) ∧ w'.cell? ⟨(ad142.add ((x5_1).toNat * 20)).block, (ad142.add ((x5_1).toNat * 20)).off + 13, none⟩ = some (.int .i8 ((rd_T54 l1 x5_1).f0.f13)) ∧ w'.cell? ⟨(ad142.add ((x5_1).toNat * 20)).block, (ad142.add ((x5_1).toNat * 20)).off + 14, none⟩ = some (.int .i16 ((rd_T54 l1 x5_1).f1.f0)) ∧ w'.cell? ⟨(ad142.add ((x5_1).toNat * 20)).block, (ad142.add ((x5_1).toNat * 20)).off + 15, none⟩ = some (.int .i16 ((rd_T54 l1 x5_1).f1.f1)) ∧ w'.cell? ⟨(ad142.add ((x5_1).toNat * 20)).block, (ad142.add ((x5_1).toNat * 20)).off + 16, none⟩ = some (.int .i16 ((rd_T54 l1 x5_1).f1.f2)) ∧ w'.cell? ⟨(ad142.add ((x5_1).toNat * 20)).block, (ad142.add ((x5_1).toNat * 20)).off + 17, none⟩ = some (.int .i8 ((rd_T54 l1 x5_1).f2.f0)) ∧ w'.cell? ⟨(ad142.add ((x5_1).toNat * 20)).block, (ad142.add ((x5_1).toNat * 20)).off + 18, none⟩ = some (.bool ((rd_T54 l1 x5_1).f2.f1)) ∧ w'.cell? ⟨(ad142.add ((x5_1).toNat * 20)).block, (ad142.add ((x5_1).toNat * 20)).off + 19, none⟩ = some (.bool (true)) ∧ w'.cell? (ad142.add ((x5_1).toNat * 20)) = some (.int .i8 ((rd_T54 l1 x5_1).f0.f0)) ∧ w'.cell? ⟨(ad142.add ((x5_1).toNat * 20)).block, (ad142.add ((x5_1).toNat * 20)).off + 1, none⟩ = some (.int .i8 ((rd_T54 l1 x5_1).f0.f1)) ∧ w'.cell? ⟨(ad142.add ((x5_1).toNat * 20)).block, (ad142.add ((x5_1).toNat * 20)).off + 2, none⟩ = some (.int .i8 ((rd_T54 l1 x5_1).f0.f2)) ∧ w'.cell? ⟨(ad142.add ((x5_1).toNat * 20)).block, (ad142.add ((x5_1).toNat * 20)).off + 3, none⟩ = some (.int .i8 ((rd_T54 l1 x5_1).f0.f3)) ∧ w'.cell? ⟨(ad142.add ((x5_1).toNat * 20)).block, (ad142.add ((x5_1).toNat * 20)).off + 4, none⟩ = some (.int .i8 ((rd_T54 l1 x5_1).f0.f4)) ∧ w'.cell? ⟨(ad142.add ((x5_1).toNat * 20)).block, (ad142.add ((x5_1).toNat * 20)).off + 5, none⟩ = some (.int .i8 ((rd_T54 l1 x5_1).f0.f5)) ∧ w'.cell? ⟨(ad142.add ((x5_1).toNat * 20)).block, (ad142.add ((x5_1).toNat * 20)).off + 6, none⟩ = some (.int .i8 ((rd_T54 l1 x5_1).f0.f6)) ∧ w'.cell? ⟨(ad142.add ((x5_1).toNat * 20)).block, (ad142.add ((x5_1).toNat * 20)).off + 7, none⟩ = some (.int .i8 ((rd_T54 l1 x5_1).f0.f7)) ∧ w'.cell? ⟨(ad142.add ((x5_1).toNat * 20)).block, (ad142.add ((x5_1).toNat * 20)).off + 8, none⟩ = some (.int .i8 ((rd_T54 l1 x5_1).f0.f8)) ∧ w'.cell? ⟨(ad142.add ((x5_1).toNat * 20)).block, (ad142.add ((x5_1).toNat * 20)).off + 9, none⟩ = some (.int .i8 ((rd_T54 l1 x5_1).f0.f9)) ∧ w'.cell? ⟨(ad142.add ((x5_1).toNat * 20)).block, (ad142.add ((x5_1).toNat * 20)).off + 10, none⟩ = some (.int .i8 ((rd_T54 l1 x5_1).f0.f10)) ∧ w'.cell? ⟨(ad142.add ((x5_1).toNat * 20)).block, (ad142.add ((x5_1).toNat * 20)).off + 11, none⟩ = some (.int .i8 ((rd_T54 l1 x5_1).f0.f11)) ∧ w'.cell? ⟨(ad142.add ((x5_1).toNat * 20)).block, (ad142.add ((x5_1).toNat * 20)).off + 12, none⟩ = some (.int .i8 ((rd_T54 l1 x5_1).f0.f12)) ∧ w'.cell? ⟨(ad142.add ((x5_1).toNat * 20)).block, (ad142.add ((x5_1).toNat * 20)).off + 13, none⟩ = some (.int .i8 ((rd_T54 l1 x5_1).f0.f13)) ∧ w'.cell? ⟨(ad142.add ((x5_1).toNat * 20)).block, (ad142.add ((x5_1).toNat * 20)).off + 14, none⟩ = some (.int .i16 ((rd_T54 l1 x5_1).f1.f0)) ∧ w'.cell? ⟨(ad142.add ((x5_1).toNat * 20)).block, (ad142.add ((x5_1).toNat * 20)).off + 15, none⟩ = some (.int .i16 ((rd_T54 l1 x5_1).f1.f1)) ∧ w'.cell? ⟨(ad142.add ((x5_1).toNat * 20)).block, (ad142.add ((x5_1).toNat * 20)).off + 16, none⟩ = some (.int .i16 ((rd_T54 l1 x5_1).f1.f2)) ∧ w'.cell? ⟨(ad142.add ((x5_1).toNat * 20)).block, (ad142.add ((x5_1).toNat * 20)).off + 17, none⟩ = some (.int .i8 ((rd_T54 l1 x5_1).f2.f0)) ∧ w'.cell? ⟨(ad142.add ((x5_1).toNat * 20)).block, (ad142.add ((x5_1).toNat * 20)).off + 18, none⟩ = some (.bool ((rd_T54 l1 x5_1).f2.f1)) ∧ w'.cell? ⟨(ad142.add ((x5_1).toNat * 20)).block, (ad142.add ((x5_1).toNat * 20)).off + 19, none⟩ = some (.bool (true))) (ds := []) (fm 23 0) (by kernel_rfl) rfl rfl ⟨(bc HB.out hw143_0), (bc HB.out hw143_1), (bc HB.out hw143_2), (bc HB.out hw143_3), (bc HB.out hw143_4), (bc HB.out hw143_5), (bc HB.out hw143_6), (bc HB.out hw143_7), (bc HB.out hw143_8), (bc HB.out hw143_9), (bc HB.out hw143_10), (bc HB.out hw143_11), (bc HB.out hw143_12), (bc HB.out hw143_13), (bc HB.out hw143_14), (bc HB.out hw143_15), (bc HB.out hw143_16), (bc HB.out hw143_17), (by first | exact (bc HB.out hw143_18) | (have h_ := (bc HB.out hw143_18); rw [← Nbq8.out] at h_; exact h_)), (by first | exact (bc HB.out hw143_19) | (have h_ := (bc HB.out hw143_19); rw [← Nbq8.out] at h_; exact h_)), (bc HB.out hw144_0), (bc HB.out hw144_1), (bc HB.out hw144_2), (bc HB.out hw144_3), (bc HB.out hw144_4), (bc HB.out hw144_5), (bc HB.out hw144_6), (bc HB.out hw144_7), (bc HB.out hw144_8), (bc HB.out hw144_9), (bc HB.out hw144_10), (bc HB.out hw144_11), (bc HB.out hw144_12), (bc HB.out hw144_13), (bc HB.out hw144_14), (bc HB.out hw144_15), (bc HB.out hw144_16), (bc HB.out hw144_17), (by first | exact (bc HB.out hw144_18) | (have h_ := (bc HB.out hw144_18); rw [← Nbq8.out] at h_; exact h_)), (by first | exact (bc HB.out hw144_19) | (have h_ := (bc HB.out hw144_19); rw [← Nbq8.out] at h_; exact h_))⟩ (fun hHeld => ?_); refine zma spec_l03Plan.tab8 spec_l03Plan.bits8 (fun HT_ HW_ => ?_)
        generalize wr.drew = w13 at BK140 HB hx143_0 hx143_1 hx143_10 hx143_11 hx143_12 hx143_13 hx143_14 hx143_15 hx143_16 hx143_17 hx143_18 hx143_19 hx143_2 hx143_3 hx143_4 hx143_5 hx143_6 hx143_7 hx143_8 hx143_9 hx144_0 hx144_1 hx144_10 hx144_11 hx144_12 hx144_13 hx144_14 hx144_15 hx144_16 hx144_17 hx144_18 hx144_19 hx144_2 hx144_3 hx144_4 hx144_5 hx144_6 hx144_7 hx144_8 hx144_9 hHeld ⊢
        refine pv 0 25 (fm 23 1) rfl rfl (zj HT_.out (by kernel_rfl)) (fun _ _ _ h => h) (Or.inl ⟨by rfl, by intro w'; go_simp; with_reducible rfl⟩) (by simp only [Act.put, ea, eb, ec, zm, zk]; rfl) ?_
        refine pv 1 26 (fm 23 2) rfl rfl (zj HT_.out (by kernel_rfl)) (fun _ _ _ h => h) (Or.inl ⟨by rfl, by intro w'; go_simp; with_reducible rfl⟩) (by simp only [Act.put, ea, eb, ec, zm, zk]; rfl) ?_
        refine pv 2 27 (fm 23 3) rfl rfl (zj HT_.out (by kernel_rfl)) (fun _ _ _ h => h) (Or.inl ⟨by rfl, by intro w'; go_simp; with_reducible rfl⟩) (by simp only [Act.put, ea, eb, ec, zm, zk]; rfl) ?_
        refine pv 4 29 #[T, T, T, F, T, F, F, F, F, F, F, F, F, F, F, F, F, F, F, F, F, F, F] rfl rfl (zj HT_.out (by kernel_rfl)) (fun _ _ _ h => h) (Or.inl ⟨by rfl, by intro w'; go_simp; with_reducible rfl⟩) (by simp only [Act.put, ea, eb, ec, zm, zk]; rfl) ?_
        refine take_ (i := 3) (N := some 28) (v := ?_) (a' := ?_) (fm 23 5) rfl rfl (zca HT_.out HW_.out (by kernel_rfl)) (fun _ _ _ h => h) (Or.inl ⟨by rfl, ?_⟩) hHeld ?_ ?_
        rotate_left
        ·rintro w' ⟨s0, s1, s2, s3, s4, s5, s6, s7, s8, s9, s10, s11, s12, s13, s14, s15, s16, s17, s18, s19, s20, s21, s22, s23, s24, s25, s26, s27, s28, s29, s30, s31, s32, s33, s34, s35, s36, s37, s38, s39⟩
         go_simp
         with_reducible rfl
        rotate_left
        ·simp only [Act.put, List.setIfInBounds_toArray, List.set_cons_zero, List.set_cons_succ, zm, zk]
         rfl
        refine pv 5 30 (fm 23 6) rfl rfl (zj HT_.out (by kernel_rfl)) (fun _ _ _ h => h) (Or.inl ⟨by rfl, by intro w'; go_simp; with_reducible rfl⟩) (by simp only [Act.put, ea, eb, ec, zm, zk]; rfl) ?_
        refine pv 6 31 (fm 23 7) rfl rfl (zj HT_.out (by kernel_rfl)) (fun _ _ _ h => h) (Or.inl ⟨by rfl, by intro w'; go_simp; with_reducible rfl⟩) (by simp only [Act.put, ea, eb, ec, zm, zk]; rfl) ?_
        refine pv 7 32 (fm 23 8) rfl rfl (zj HT_.out (by kernel_rfl)) (fun _ _ _ h => h) (Or.inl ⟨by rfl, by intro w'; go_simp; with_reducible rfl⟩) (by simp only [Act.put, ea, eb, ec, zm, zk]; rfl) ?_
        refine pv 8 33 (fm 23 9) rfl rfl (zj HT_.out (by kernel_rfl)) (fun _ _ _ h => h) (Or.inl ⟨by rfl, by intro w'; go_simp; with_reducible rfl⟩) (by simp only [Act.put, ea, eb, ec, zm, zk]; rfl) ?_
        refine pv 9 34 (fm 23 10) rfl rfl (zj HT_.out (by kernel_rfl)) (fun _ _ _ h => h) (Or.inl ⟨by rfl, by intro w'; go_simp; with_reducible rfl⟩) (by simp only [Act.put, ea, eb, ec, zm, zk]; rfl) ?_
        refine pv 11 36 #[T, T, T, T, T, T, T, T, T, T, F, T, F, F, F, F, F, F, F, F, F, F, F] rfl rfl (zj HT_.out (by kernel_rfl)) (fun _ _ _ h => h) (Or.inl ⟨by rfl, by intro w'; go_simp; with_reducible rfl⟩) (by simp only [Act.put, ea, eb, ec, zm, zk]; rfl) ?_
        refine take_ (i := 10) (N := some 35) (v := ?_) (a' := ?_) (fm 23 12) rfl rfl (zca HT_.out HW_.out (by kernel_rfl)) (fun _ _ _ h => h) (Or.inl ⟨by rfl, ?_⟩) hHeld ?_ ?_
        rotate_left
        ·rintro w' ⟨s0, s1, s2, s3, s4, s5, s6, s7, s8, s9, s10, s11, s12, s13, s14, s15, s16, s17, s18, s19, s20, s21, s22, s23, s24, s25, s26, s27, s28, s29, s30, s31, s32, s33, s34, s35, s36, s37, s38, s39⟩
         go_simp
         with_reducible rfl
        rotate_left
        ·simp only [Act.put, List.setIfInBounds_toArray, List.set_cons_zero, List.set_cons_succ, zm, zk]
         rfl
        refine pv 12 37 (fm 23 13) rfl rfl (zj HT_.out (by kernel_rfl)) (fun _ _ _ h => h) (Or.inl ⟨by rfl, by intro w'; go_simp; with_reducible rfl⟩) (by simp only [Act.put, ea, eb, ec, zm, zk]; rfl) ?_
        refine pv 13 38 (fm 23 14) rfl rfl (zj HT_.out (by kernel_rfl)) (fun _ _ _ h => h) (Or.inl ⟨by rfl, by intro w'; go_simp; with_reducible rfl⟩) (by simp only [Act.put, ea, eb, ec, zm, zk]; rfl) ?_
        refine pv 14 39 (fm 23 15) rfl rfl (zj HT_.out (by kernel_rfl)) (fun _ _ _ h => h) (Or.inl ⟨by rfl, by intro w'; go_simp; with_reducible rfl⟩) (by simp only [Act.put, ea, eb, ec, zm, zk]; rfl) ?_
        refine pu 15 40 (fm 23 16) rfl rfl (zj HT_.out (by kernel_rfl)) (fun _ _ _ h => h) (Or.inr ⟨by rfl, rfl⟩) (by simp only [Act.put, ea, eb, ec, zm, zk]; rfl) ?_
        refine pu 16 41 (fm 23 17) rfl rfl (zj HT_.out (by kernel_rfl)) (fun _ _ _ h => h) (Or.inr ⟨by rfl, rfl⟩) (by simp only [Act.put, ea, eb, ec, zm, zk]; rfl) ?_
        refine pu 17 42 (fm 23 18) rfl rfl (zj HT_.out (by kernel_rfl)) (fun _ _ _ h => h) (Or.inr ⟨by rfl, rfl⟩) (by simp only [Act.put, ea, eb, ec, zm, zk]; rfl) ?_
        refine pu 18 43 (fm 23 19) rfl rfl (zj HT_.out (by kernel_rfl)) (fun _ _ _ h => h) (Or.inr ⟨by rfl, rfl⟩) (by simp only [Act.put, ea, eb, ec, zm, zk]; rfl) ?_
        refine pu 19 44 (fm 23 20) rfl rfl (zj HT_.out (by kernel_rfl)) (fun _ _ _ h => h) (Or.inr ⟨by rfl, rfl⟩) (by simp only [Act.put, ea, eb, ec, zm, zk]; rfl) ?_
        refine pu 20 45 (fm 23 21) rfl rfl (zj HT_.out (by kernel_rfl)) (fun _ _ _ h => h) (Or.inr ⟨by rfl, rfl⟩) (by simp only [Act.put, ea, eb, ec, zm, zk]; rfl) ?_
        refine pu 21 46 (fm 23 22) rfl rfl (zj HT_.out (by kernel_rfl)) (fun _ _ _ h => h) (Or.inr ⟨by rfl, rfl⟩) (by simp only [Act.put, ea, eb, ec, zm, zk]; rfl) ?_
        refine pv 22 47 (fm 23 23) rfl rfl (zj HT_.out (by kernel_rfl)) (fun _ _ _ h => h) (Or.inl ⟨by rfl, by intro w'; go_simp; with_reducible rfl⟩) (by simp only [Act.put, ea, eb, ec, zm, zk]; rfl) ?_
        refine done_ (done_of HT_.out (by kernel_rfl)) ?_
        try go_wp2
        go_ret
        exact ⟨by first | rfl | (simp [errW_none, errW_some] <;> rfl) | (simp [*, errW_none, errW_some] <;> rfl), by repeat (first | (with_reducible first | exact HB.out | apply zd | apply za | apply zb | refine ze ?_ GE140.out) | exact HB.out)⟩
       rw [if_neg c12] at H
       have c12b0 : (!(((rd_T54 l1 x5_1).f1.f0) == 0) || (!(((rd_T54 l1 x5_1).f1.f1) == 0) || (!(((rd_T54 l1 x5_1).f1.f2) == 0)))) = false := by simpa using c12
       clear c12
       replace H := Option.bind_eq_some_iff.mp H
       obtain ⟨t146, A140, H⟩ := H
       replace H : (if t146 < 0 then (some false) else (spec_l03Plan.l0 k1 l1 (wrap64 (x5_1 + 1)) a0_0 a0_1 a0_2 a0_3)) = some r := H
       have A14 := zc.mk A140
       clear A140
       by_cases c15 : t146 < 0
       ·rw [if_pos c15] at H
        have c15b0 : decide (t146 < 0) = true := decide_eq_true c15
        clear c15
        obtain rfl := Option.some.inj H
        have p142 : 0 ≤ (x5_1 : Int) := of_decide_eq_true (by first | (with_reducible assumption) | assumption)
        have q142 : x5_1 < (l1.length : Int) := of_decide_eq_true (by first | (with_reducible assumption) | assumption)
        obtain ⟨ad142, e142, hx142_0, hx142_1, hx142_2, hx142_3, hx142_4, hx142_5, hx142_6, hx142_7, hx142_8, hx142_9, hx142_10, hx142_11, hx142_12, hx142_13, hx142_14, hx142_15, hx142_16, hx142_17, hx142_18, hx142_19⟩ := ac_T54 HB.out HR1.out x5_1 p142 q142
        (try rw [← Nbq8.out] at hx142_18)
        (try rw [← Nbq8.out] at hx142_19)
        cases e142
        replace p142 := eq_true p142
        replace q142 := eq_true q142
        try go_wp2
        have n0_ := zc.mk (zh BK140.out)
        have n1_ := zc.mk (zb HB.out)
        clear BK140
        clear HB
        have BK140 := n0_
        have HB := n1_
        clear n0_ n1_
        have p143 : 0 ≤ (x5_1 : Int) := of_decide_eq_true (by first | (with_reducible assumption) | assumption)
        have q143 : x5_1 < (l1.length : Int) := of_decide_eq_true (by first | (with_reducible assumption) | assumption)
        obtain ⟨ad143, e143, hx143_0, hx143_1, hx143_2, hx143_3, hx143_4, hx143_5, hx143_6, hx143_7, hx143_8, hx143_9, hx143_10, hx143_11, hx143_12, hx143_13, hx143_14, hx143_15, hx143_16, hx143_17, hx143_18, hx143_19, hw143_0, hw143_1, hw143_2, hw143_3, hw143_4, hw143_5, hw143_6, hw143_7, hw143_8, hw143_9, hw143_10, hw143_11, hw143_12, hw143_13, hw143_14, hw143_15, hw143_16, hw143_17, hw143_18, hw143_19⟩ := ab_T54 HB.out HR1.out x5_1 p143 q143
        (try rw [← Nbq8.out] at hx143_18)
        (try rw [← Nbq8.out] at hx143_19)
        obtain rfl : ad142 = ad143 := (by injection e143)
        replace p143 := eq_true p143
        replace q143 := eq_true q143
        have p144 : 0 ≤ (x5_1 : Int) := of_decide_eq_true (by first | (with_reducible assumption) | assumption)
        have q144 : x5_1 < (l1.length : Int) := of_decide_eq_true (by first | (with_reducible assumption) | assumption)
        obtain ⟨ad144, e144, hx144_0, hx144_1, hx144_2, hx144_3, hx144_4, hx144_5, hx144_6, hx144_7, hx144_8, hx144_9, hx144_10, hx144_11, hx144_12, hx144_13, hx144_14, hx144_15, hx144_16, hx144_17, hx144_18, hx144_19, hw144_0, hw144_1, hw144_2, hw144_3, hw144_4, hw144_5, hw144_6, hw144_7, hw144_8, hw144_9, hw144_10, hw144_11, hw144_12, hw144_13, hw144_14, hw144_15, hw144_16, hw144_17, hw144_18, hw144_19⟩ := ab_T54 HB.out HR1.out x5_1 p144 q144
        (try rw [← Nbq8.out] at hx144_18)
        (try rw [← Nbq8.out] at hx144_19)
        obtain rfl : ad142 = ad144 := (by injection e144)
        replace p144 := eq_true p144
        replace q144 := eq_true q144
        have p145 : 0 ≤ (x5_1 : Int) := of_decide_eq_true (by first | (with_reducible assumption) | assumption)
        have q145 : x5_1 < (l1.length : Int) := of_decide_eq_true (by first | (with_reducible assumption) | assumption)
        obtain ⟨ad145, e145, hx145_0, hx145_1, hx145_2, hx145_3, hx145_4, hx145_5, hx145_6, hx145_7, hx145_8, hx145_9, hx145_10, hx145_11, hx145_12, hx145_13, hx145_14, hx145_15, hx145_16, hx145_17, hx145_18, hx145_19, hw145_0, hw145_1, hw145_2, hw145_3, hw145_4, hw145_5, hw145_6, hw145_7, hw145_8, hw145_9, hw145_10, hw145_11, hw145_12, hw145_13, hw145_14, hw145_15, hw145_16, hw145_17, hw145_18, hw145_19⟩ := ab_T54 HB.out HR1.out x5_1 p145 q145
        (try rw [← Nbq8.out] at hx145_18)
        (try rw [← Nbq8.out] at hx145_19)
        obtain rfl : ad142 = ad145 := (by injection e145)
        replace p145 := eq_true p145
        replace q145 := eq_true q145
        refine start_ (n := 23) (S := fun w' => w'.cell? ⟨gb140, 0, none⟩ = some (.int .i8 a0_0) ∧ w'.cell? ⟨gb140, 1, none⟩ = some (.int .i8 a0_1) ∧ w'.cell? ⟨gb140, 2, none⟩ = some (.bool a0_2) ∧ w'.cell? ⟨gb140, 3, none⟩ = some (.bool a0_3) ∧ w'.cell? (ad142.add ((x5_1).toNat * 20)) = some (.int .i8 ((rd_T54 l1 x5_1).f0.f0)) ∧ w'.cell? ⟨(ad142.add ((x5_1).toNat * 20)).block, (ad142.add ((x5_1).toNat * 20)).off + 1, none⟩ = some (.int .i8 ((rd_T54 l1 x5_1).f0.f1)) ∧ w'.cell? ⟨(ad142.add ((x5_1).toNat * 20)).block, (ad142.add ((x5_1).toNat * 20)).off + 2, none⟩ = some (.int .i8 ((rd_T54 l1 x5_1).f0.f2)) ∧ w'.cell? ⟨(ad142.add ((x5_1).toNat * 20)).block, (ad142.add ((x5_1).toNat * 20)).off + 3, none⟩ = some (.int .i8 ((rd_T54 l1 x5_1).f0.f3)) ∧ w'.cell? ⟨(ad142.add ((x5_1).toNat * 20)).block, (ad142.add ((x5_1).toNat * 20)).off + 4, none⟩ = some (.int .i8 ((rd_T54 l1 x5_1).f0.f4)) ∧ w'.cell? ⟨(ad142.add ((x5_1).toNat * 20)).block, (ad142.add ((x5_1).toNat * 20)).off + 5, none⟩ = some (.int .i8 ((rd_T54 l1 x5_1).f0.f5)) ∧ w'.cell? ⟨(ad142.add ((x5_1).toNat * 20)).block, (ad142.add ((x5_1).toNat * 20)).off + 6, none⟩ = some (.int .i8 ((rd_T54 l1 x5_1).f0.f6)) ∧ w'.cell? ⟨(ad142.add ((x5_1).toNat * 20)).block, (ad142.add ((x5_1).toNat * 20)).off + 7, none⟩ = some (.int .i8 ((rd_T54 l1 x5_1).f0.f7)) ∧ w'.cell? ⟨(ad142.add ((x5_1).toNat * 20)).block, (ad142.add ((x5_1).toNat * 20)).off + 8, none⟩ = some (.int .i8 ((rd_T54 l1 x5_1).f0.f8)) ∧ w'.cell? ⟨(ad142.add ((x5_1).toNat * 20)).block, (ad142.add ((x5_1).toNat * 20)).off + 9, none⟩ = some (.int .i8 ((rd_T54 l1 x5_1).f0.f9)) ∧ w'.cell? ⟨(ad142.add ((x5_1).toNat * 20)).block, (ad142.add ((x5_1).toNat * 20)).off + 10, none⟩ = some (.int .i8 ((rd_T54 l1 x5_1).f0.f10)) ∧ w'.cell? ⟨(ad142.add ((x5_1).toNat * 20)).block, (ad142.add ((x5_1).toNat * 20)).off + 11, none⟩ = some (.int .i8 ((rd_T54 l1 x5_1).f0.f11)) ∧ w'.cell? ⟨(ad142.add ((x5_1).toNat * 20)).block, (ad142.add ((x5_1).toNat * 20)).off + 12, none⟩ = some (.int .i8 ((rd_T54 l1 x5_1).f0.f12)) ∧ w'.cell? ⟨(ad142.add ((x5_1).toNat * 20)).block, (ad142.add ((x5_1).toNat * 20)).off + 13, none⟩ = some (.int .i8 ((rd_T54 l1 x5_1).f0.f13)) ∧ w'.cell? ⟨(ad142.add ((x5_1).toNat * 20)).block, (ad142.add ((x5_1).toNat * 20)).off + 14, none⟩ = some (.int .i16 ((rd_T54 l1 x5_1).f1.f0)) ∧ w'.cell? ⟨(ad142.add ((x5_1).toNat * 20)).block, (ad142.add ((x5_1).toNat * 20)).off + 15, none⟩ = some (.int .i16 ((rd_T54 l1 x5_1).f1.f1)) ∧ w'.cell? ⟨(ad142.add ((x5_1).toNat * 20)).block, (ad142.add ((x5_1).toNat * 20)).off + 16, none⟩ = some (.int .i16 ((rd_T54 l1 x5_1).f1.f2)) ∧ w'.cell? ⟨(ad142.add ((x5_1).toNat * 20)).block, (ad142.add ((x5_1).toNat * 20)).off + 17, none⟩ = some (.int .i8 ((rd_T54 l1 x5_1).f2.f0)) ∧ w'.cell? ⟨(ad142.add ((x5_1).toNat * 20)).block, (ad142.add ((x5_1).toNat * 20)).off + 18, none⟩ = some (.bool ((rd_T54 l1 x5_1).f2.f1)) ∧ w'.cell? ⟨(ad142.add ((x5_1).toNat * 20)).block, (ad142.add ((x5_1).toNat * 20)).off + 19, none⟩ = some (.bool (true)) ∧ w'.cell? (ad142.add ((x5_1).toNat * 20)) = some (.int .i8 ((rd_T54 l1 x5_1).f0.f0)) ∧ w'.cell? ⟨(ad142.add ((x5_1).toNat * 20)).block, (ad142.add ((x5_1).toNat * 20)).off + 1, none⟩ = some (.int .i8 ((rd_T54 l1 x5_1).f0.f1)) ∧ w'.cell? ⟨(ad142.add ((x5_1).toNat * 20)).block, (ad142.add ((x5_1).toNat * 20)).off + 2, none⟩ = some (.int .i8 ((rd_T54 l1 x5_1).f0.f2)) ∧ w'.cell? ⟨(ad142.add ((x5_1).toNat * 20)).block, (ad142.add ((x5_1).toNat * 20)).off + 3, none⟩ = some (.int .i8 ((rd_T54 l1 x5_1).f0.f3)) ∧ w'.cell? ⟨(ad142.add ((x5_1).toNat * 20)).block, (ad142.add ((x5_1).toNat * 20)).off + 4, none⟩ = some (.int .i8 ((rd_T54 l1 x5_1).f0.f4)) ∧ w'.cell? ⟨(ad142.add ((x5_1).toNat * 20)).block, (ad142.add ((x5_1).toNat * 20)).off + 5, none⟩ = some (.int .i8 ((rd_T54 l1 x5_1).f0.f5)) ∧ w'.cell? ⟨(ad142.add ((x5_1).toNat * 20)).block, (ad142.add ((x5_1).toNat * 20)).off + 6, none⟩ = some (.int .i8 ((rd_T54 l1 x5_1).f0.f6)) ∧ w'.cell? ⟨(ad142.add ((x5_1).toNat * 20)).block, (ad142.add ((x5_1).toNat * 20)).off + 7, none⟩ = some (.int .i8 ((rd_T54 l1 x5_1).f0.f7)) ∧ w'.cell? ⟨(ad142.add ((x5_1).toNat * 20)).block, (ad142.add ((x5_1).toNat * 20)).off + 8, none⟩ = some (.int .i8 ((rd_T54 l1 x5_1).f0.f8)) ∧ w'.cell? ⟨(ad142.add ((x5_1).toNat * 20)).block, (ad142.add ((x5_1).toNat * 20)).off + 9, none⟩ = some (.int .i8 ((rd_T54 l1 x5_1).f0.f9)) ∧ w'.cell? ⟨(ad142.add ((x5_1).toNat * 20)).block, (ad142.add ((x5_1).toNat * 20)).off + 10, none⟩ = some (.int .i8 ((rd_T54 l1 x5_1).f0.f10)) ∧ w'.cell? ⟨(ad142.add ((x5_1).toNat * 20)).block, (ad142.add ((x5_1).toNat * 20)).off + 11, none⟩ = some (.int .i8 ((rd_T54 l1 x5_1).f0.f11)) ∧ w'.cell? ⟨(ad142.add ((x5_1).toNat * 20)).block, (ad142.add ((x5_1).toNat * 20)).off + 12, none⟩ = some (.int .i8 ((rd_T54 l1 x5_1).f0.f12)) ∧ w'.cell? ⟨(ad142.add ((x5_1).toNat * 20)).block, (ad142.add ((x5_1).toNat * 20)).off + 13, none⟩ = some (.int .i8 ((rd_T54 l1 x5_1).f0.f13)) ∧ w'.cell? ⟨(ad142.add ((x5_1).toNat * 20)).block, (ad142.add ((x5_1).toNat * 20)).off + 14, none⟩ = some (.int .i16 ((rd_T54 l1 x5_1).f1.f0)) ∧ w'.cell? ⟨(ad142.add ((x5_1).toNat * 20)).block, (ad142.add ((x5_1).toNat * 20)).off + 15, none⟩ = some (.int .i16 ((rd_T54 l1 x5_1).f1.f1)) ∧ w'.cell? ⟨(ad142.add ((x5_1).toNat * 20)).block, (ad142.add ((x5_1).toNat * 20)).off + 16, none⟩ = some (.int .i16 ((rd_T54 l1 x5_1).f1.f2)) ∧ w'.cell? ⟨(ad142.add ((x5_1).toNat * 20)).block, (ad142.add ((x5_1).toNat * 20)).off + 17, none⟩ = some (.int .i8 ((rd_T54 l1 x5_1).f2.f0)) ∧ w'.cell? ⟨(ad142.add ((x5_1).toNat * 20)).block, (ad142.add ((x5_1).toNat * 20)).off + 18, none⟩ = some (.bool ((rd_T54 l1 x5_1).f2.f1)) ∧ w'.cell? ⟨(ad142.add ((x5_1).toNat * 20)).block, (ad142.add ((x5_1).toNat * 20)).off + 19, none⟩ = some (.bool (true)) ∧ w'.cell? (ad142.add ((x5_1).toNat * 20)) = some (.int .i8 ((rd_T54 l1 x5_1).f0.f0)) ∧ w'.cell? ⟨(ad142.add ((x5_1).toNat * 20)).block, (ad142.add ((x5_1).toNat * 20)).off + 1, none⟩ = some (.int .i8 ((rd_T54 l1 x5_1).f0.f1)) ∧ w'.cell? ⟨(ad142.add ((x5_1).toNat * 20)).block, (ad142.add ((x5_1).toNat * 20)).off + 2, none⟩ = some (.int .i8 ((rd_T54 l1 x5_1).f0.f2)) ∧ w'.cell? ⟨(ad142.add ((x5_1).toNat * 20)).block, (ad142.add ((x5_1).toNat * 20)).off + 3, none⟩ = some (.int .i8 ((rd_T54 l1 x5_1).f0.f3)) ∧ w'.cell? ⟨(ad142.add ((x5_1).toNat * 20)).block, (ad142.add ((x5_1).toNat * 20)).off + 4, none⟩ = some (.int .i8 ((rd_T54 l1 x5_1).f0.f4)) ∧ w'.cell? ⟨(ad142.add ((x5_1).toNat * 20)).block, (ad142.add ((x5_1).toNat * 20)).off + 5, none⟩ = some (.int .i8 ((rd_T54 l1 x5_1).f0.f5)) ∧ w'.cell? ⟨(ad142.add ((x5_1).toNat * 20)).block, (ad142.add ((x5_1).toNat * 20)).off + 6, none⟩ = some (.int .i8 ((rd_T54 l1 x5_1).f0.f6)) ∧ w'.cell? ⟨(ad142.add ((x5_1).toNat * 20)).block, (ad142.add ((x5_1).toNat * 20)).off + 7, none⟩ = some (.int .i8 ((rd_T54 l1 x5_1).f0.f7)) ∧ w'.cell? ⟨(ad142.add ((x5_1).toNat * 20)).block, (ad142.add ((x5_1).toNat * 20)).off + 8, none⟩ = some (.int .i8 ((rd_T54 l1 x5_1).f0.f8)) ∧ w'.cell? ⟨(ad142.add ((x5_1).toNat * 20)).block, (ad142.add ((x5_1).toNat * 20)).off + 9, none⟩ = some (.int .i8 ((rd_T54 l1 x5_1).f0.f9)) ∧ w'.cell? ⟨(ad142.add ((x5_1).toNat * 20)).block, (ad142.add ((x5_1).toNat * 20)).off + 10, none⟩ = some (.int .i8 ((rd_T54 l1 x5_1).f0.f10)) ∧ w'.cell? ⟨(ad142.add ((x5_1).toNat * 20)).block, (ad142.add ((x5_1).toNat * 20)).off + 11, none⟩ = some (.int .i8 ((rd_T54 l1 x5_1).f0.f11)) ∧ w'.cell? ⟨(ad142.add ((x5_1).toNat * 20)).block, (ad142.add ((x5_1).toNat * 20)).off + 12, none⟩ = some (.int .i8 ((rd_T54 l1 x5_1).f0.f12)) ∧ w'.cell? ⟨(ad142.add ((x5_1).toNat * 20)).block, (ad142.add ((x5_1).toNat * 20)).off + 13, none⟩ = some (.int .i8 ((rd_T54 l1 x5_1).f0.f13)) ∧ w'.cell? ⟨(ad142.add ((x5_1).toNat * 20)).block, (ad142.add ((x5_1).toNat * 20)).off + 14, none⟩ = some (.int .i16 ((rd_T54 l1 x5_1).f1.f0)) ∧ w'.cell? ⟨(ad142.add ((x5_1).toNat * 20)).block, (ad142.add ((x5_1).toNat * 20)).off + 15, none⟩ = some (.int .i16 ((rd_T54 l1 x5_1).f1.f1)) ∧ w'.cell? ⟨(ad142.add ((x5_1).toNat * 20)).block, (ad142.add ((x5_1).toNat * 20)).off + 16, none⟩ = some (.int .i16 ((rd_T54 l1 x5_1).f1.f2)) ∧ w'.cell? ⟨(ad142.add ((x5_1).toNat * 20)).block, (ad142.add ((x5_1).toNat * 20)).off + 17, none⟩ = some (.int .i8 ((rd_T54 l1 x5_1).f2.f0)) ∧ w'.cell? ⟨(ad142.add ((x5_1).toNat * 20)).block, (ad142.add ((x5_1).toNat * 20)).off + 18, none⟩ = some (.bool ((rd_T54 l1 x5_1).f2.f1)) ∧ w'.cell? ⟨(ad142.add ((x5_1).toNat * 20)).block, (ad142.add ((x5_1).toNat * 20)).off + 19, none⟩ = some (.bool (true))) (ds := []) (fm 23 0) (by kernel_rfl) rfl rfl ⟨(zr BK140.out 0).trans rfl, (zr BK140.out 1).trans rfl, (zr BK140.out 2).trans rfl, (zr BK140.out 3).trans rfl, (bc HB.out hw143_0), (bc HB.out hw143_1), (bc HB.out hw143_2), (bc HB.out hw143_3), (bc HB.out hw143_4), (bc HB.out hw143_5), (bc HB.out hw143_6), (bc HB.out hw143_7), (bc HB.out hw143_8), (bc HB.out hw143_9), (bc HB.out hw143_10), (bc HB.out hw143_11), (bc HB.out hw143_12), (bc HB.out hw143_13), (bc HB.out hw143_14), (bc HB.out hw143_15), (bc HB.out hw143_16), (bc HB.out hw143_17), (by first | exact (bc HB.out hw143_18) | (have h_ := (bc HB.out hw143_18); rw [← Nbq8.out] at h_; exact h_)), (by first | exact (bc HB.out hw143_19) | (have h_ := (bc HB.out hw143_19); rw [← Nbq8.out] at h_; exact h_)), (bc HB.out hw144_0), (bc HB.out hw144_1), (bc HB.out hw144_2), (bc HB.out hw144_3), (bc HB.out hw144_4), (bc HB.out hw144_5), (bc HB.out hw144_6), (bc HB.out hw144_7), (bc HB.out hw144_8), (bc HB.out hw144_9), (bc HB.out hw144_10), (bc HB.out hw144_11), (bc HB.out hw144_12), (bc HB.out hw144_13), (bc HB.out hw144_14), (bc HB.out hw144_15), (bc HB.out hw144_16), (bc HB.out hw144_17), (by first | exact (bc HB.out hw144_18) | (have h_ := (bc HB.out hw144_18); rw [← Nbq8.out] at h_; exact h_)), (by first | exact (bc HB.out hw144_19) | (have h_ := (bc HB.out hw144_19); rw [← Nbq8.out] at h_; exact h_)), (bc HB.out hw145_0), (bc HB.out hw145_1), (bc HB.out hw145_2), (bc HB.out hw145_3), (bc HB.out hw145_4), (bc HB.out hw145_5), (bc HB.out hw145_6), (bc HB.out hw145_7), (bc HB.out hw145_8), (bc HB.out hw145_9), (bc HB.out hw145_10), (bc HB.out hw145_11), (bc HB.out hw145_12), (bc HB.out hw145_13), (bc HB.out hw145_14), (bc HB.out hw145_15), (bc HB.out hw145_16), (bc HB.out hw145_17), (by first | exact (bc HB.out hw145_18) | (have h_ := (bc HB.out hw145_18); rw [← Nbq8.out] at h_; exact h_)), (by first | exact (bc HB.out hw145_19) | (have h_ := (bc HB.out hw145_19); rw [← Nbq8.out] at h_; exact h_))⟩ (fun hHeld => ?_); refine zma spec_l03Plan.tab8 spec_l03Plan.bits8 (fun HT_ HW_ => ?_)
        generalize wr.drew = w16 at BK140 HB hx143_0 hx143_1 hx143_10 hx143_11 hx143_12 hx143_13 hx143_14 hx143_15 hx143_16 hx143_17 hx143_18 hx143_19 hx143_2 hx143_3 hx143_4 hx143_5 hx143_6 hx143_7 hx143_8 hx143_9 hx144_0 hx144_1 hx144_10 hx144_11 hx144_12 hx144_13 hx144_14 hx144_15 hx144_16 hx144_17 hx144_18 hx144_19 hx144_2 hx144_3 hx144_4 hx144_5 hx144_6 hx144_7 hx144_8 hx144_9 hx145_0 hx145_1 hx145_10 hx145_11 hx145_12 hx145_13 hx145_14 hx145_15 hx145_16 hx145_17 hx145_18 hx145_19 hx145_2 hx145_3 hx145_4 hx145_5 hx145_6 hx145_7 hx145_8 hx145_9 hHeld ⊢
        refine pv 0 25 (fm 23 1) rfl rfl (zj HT_.out (by kernel_rfl)) (fun _ _ _ h => h) (Or.inl ⟨by rfl, by intro w'; go_simp; with_reducible rfl⟩) (by simp only [Act.put, ea, eb, ec, zm, zk]; rfl) ?_
        refine pv 1 26 (fm 23 2) rfl rfl (zj HT_.out (by kernel_rfl)) (fun _ _ _ h => h) (Or.inl ⟨by rfl, by intro w'; go_simp; with_reducible rfl⟩) (by simp only [Act.put, ea, eb, ec, zm, zk]; rfl) ?_
        refine pv 2 27 (fm 23 3) rfl rfl (zj HT_.out (by kernel_rfl)) (fun _ _ _ h => h) (Or.inl ⟨by rfl, by intro w'; go_simp; with_reducible rfl⟩) (by simp only [Act.put, ea, eb, ec, zm, zk]; rfl) ?_
        refine pv 4 29 #[T, T, T, F, T, F, F, F, F, F, F, F, F, F, F, F, F, F, F, F, F, F, F] rfl rfl (zj HT_.out (by kernel_rfl)) (fun _ _ _ h => h) (Or.inl ⟨by rfl, by intro w'; go_simp; with_reducible rfl⟩) (by simp only [Act.put, ea, eb, ec, zm, zk]; rfl) ?_
        refine take_ (i := 3) (N := some 28) (v := ?_) (a' := ?_) (fm 23 5) rfl rfl (zca HT_.out HW_.out (by kernel_rfl)) (fun _ _ _ h => h) (Or.inl ⟨by rfl, ?_⟩) hHeld ?_ ?_
        rotate_left
        ·rintro w' ⟨s0, s1, s2, s3, s4, s5, s6, s7, s8, s9, s10, s11, s12, s13, s14, s15, s16, s17, s18, s19, s20, s21, s22, s23, s24, s25, s26, s27, s28, s29, s30, s31, s32, s33, s34, s35, s36, s37, s38, s39, s40, s41, s42, s43, s44, s45, s46, s47, s48, s49, s50, s51, s52, s53, s54, s55, s56, s57, s58, s59, s60, s61, s62, s63⟩
         go_simp
         with_reducible rfl
        rotate_left
        ·simp only [Act.put, List.setIfInBounds_toArray, List.set_cons_zero, List.set_cons_succ, zm, zk]
         rfl
        refine pv 5 30 (fm 23 6) rfl rfl (zj HT_.out (by kernel_rfl)) (fun _ _ _ h => h) (Or.inl ⟨by rfl, by intro w'; go_simp; with_reducible rfl⟩) (by simp only [Act.put, ea, eb, ec, zm, zk]; rfl) ?_
        refine pv 6 31 (fm 23 7) rfl rfl (zj HT_.out (by kernel_rfl)) (fun _ _ _ h => h) (Or.inl ⟨by rfl, by intro w'; go_simp; with_reducible rfl⟩) (by simp only [Act.put, ea, eb, ec, zm, zk]; rfl) ?_
        refine pv 7 32 (fm 23 8) rfl rfl (zj HT_.out (by kernel_rfl)) (fun _ _ _ h => h) (Or.inl ⟨by rfl, by intro w'; go_simp; with_reducible rfl⟩) (by simp only [Act.put, ea, eb, ec, zm, zk]; rfl) ?_
        refine pv 8 33 (fm 23 9) rfl rfl (zj HT_.out (by kernel_rfl)) (fun _ _ _ h => h) (Or.inl ⟨by rfl, by intro w'; go_simp; with_reducible rfl⟩) (by simp only [Act.put, ea, eb, ec, zm, zk]; rfl) ?_
        refine pv 9 34 (fm 23 10) rfl rfl (zj HT_.out (by kernel_rfl)) (fun _ _ _ h => h) (Or.inl ⟨by rfl, by intro w'; go_simp; with_reducible rfl⟩) (by simp only [Act.put, ea, eb, ec, zm, zk]; rfl) ?_
        refine pv 11 36 #[T, T, T, T, T, T, T, T, T, T, F, T, F, F, F, F, F, F, F, F, F, F, F] rfl rfl (zj HT_.out (by kernel_rfl)) (fun _ _ _ h => h) (Or.inl ⟨by rfl, by intro w'; go_simp; with_reducible rfl⟩) (by simp only [Act.put, ea, eb, ec, zm, zk]; rfl) ?_
        refine take_ (i := 10) (N := some 35) (v := ?_) (a' := ?_) (fm 23 12) rfl rfl (zca HT_.out HW_.out (by kernel_rfl)) (fun _ _ _ h => h) (Or.inl ⟨by rfl, ?_⟩) hHeld ?_ ?_
        rotate_left
        ·rintro w' ⟨s0, s1, s2, s3, s4, s5, s6, s7, s8, s9, s10, s11, s12, s13, s14, s15, s16, s17, s18, s19, s20, s21, s22, s23, s24, s25, s26, s27, s28, s29, s30, s31, s32, s33, s34, s35, s36, s37, s38, s39, s40, s41, s42, s43, s44, s45, s46, s47, s48, s49, s50, s51, s52, s53, s54, s55, s56, s57, s58, s59, s60, s61, s62, s63⟩
         go_simp
         with_reducible rfl
        rotate_left
        ·simp only [Act.put, List.setIfInBounds_toArray, List.set_cons_zero, List.set_cons_succ, zm, zk]
         rfl
        refine pv 12 37 (fm 23 13) rfl rfl (zj HT_.out (by kernel_rfl)) (fun _ _ _ h => h) (Or.inl ⟨by rfl, by intro w'; go_simp; with_reducible rfl⟩) (by simp only [Act.put, ea, eb, ec, zm, zk]; rfl) ?_
        refine pv 13 38 (fm 23 14) rfl rfl (zj HT_.out (by kernel_rfl)) (fun _ _ _ h => h) (Or.inl ⟨by rfl, by intro w'; go_simp; with_reducible rfl⟩) (by simp only [Act.put, ea, eb, ec, zm, zk]; rfl) ?_
        refine pv 14 39 (fm 23 15) rfl rfl (zj HT_.out (by kernel_rfl)) (fun _ _ _ h => h) (Or.inl ⟨by rfl, by intro w'; go_simp; with_reducible rfl⟩) (by simp only [Act.put, ea, eb, ec, zm, zk]; rfl) ?_
        refine pv 16 41 #[T, T, T, T, T, T, T, T, T, T, T, T, T, T, T, F, T, F, F, F, F, F, F] rfl rfl (zj HT_.out (by kernel_rfl)) (fun _ _ _ h => h) (Or.inl ⟨by rfl, by intro w'; go_simp; with_reducible rfl⟩) (by simp only [Act.put, ea, eb, ec, zm, zk]; rfl) ?_
        refine pv 17 42 #[T, T, T, T, T, T, T, T, T, T, T, T, T, T, T, F, T, T, F, F, F, F, F] rfl rfl (zj HT_.out (by kernel_rfl)) (fun _ _ _ h => h) (Or.inl ⟨by rfl, by intro w'; go_simp; with_reducible rfl⟩) (by simp only [Act.put, ea, eb, ec, zm, zk]; rfl) ?_
        refine pv 18 43 #[T, T, T, T, T, T, T, T, T, T, T, T, T, T, T, F, T, T, T, F, F, F, F] rfl rfl (zj HT_.out (by kernel_rfl)) (fun _ _ _ h => h) (Or.inl ⟨by rfl, by intro w'; go_simp; with_reducible rfl⟩) (by simp only [Act.put, ea, eb, ec, zm, zk]; rfl) ?_
        refine take_ (i := 15) (N := some 40) (v := ?_) (a' := ?_) (fm 23 19) rfl rfl (zca HT_.out HW_.out (by kernel_rfl)) (fun _ _ _ h => h) (Or.inl ⟨by rfl, ?_⟩) hHeld ?_ ?_
        rotate_left
        ·rintro w' ⟨s0, s1, s2, s3, s4, s5, s6, s7, s8, s9, s10, s11, s12, s13, s14, s15, s16, s17, s18, s19, s20, s21, s22, s23, s24, s25, s26, s27, s28, s29, s30, s31, s32, s33, s34, s35, s36, s37, s38, s39, s40, s41, s42, s43, s44, s45, s46, s47, s48, s49, s50, s51, s52, s53, s54, s55, s56, s57, s58, s59, s60, s61, s62, s63⟩
         go_simp
         with_reducible rfl
        rotate_left
        ·simp only [Act.put, List.setIfInBounds_toArray, List.set_cons_zero, List.set_cons_succ, zm, zk]
         rfl
        refine take_ (i := 19) (N := some 44) (v := ?_) (a' := ?_) (fm 23 20) rfl rfl (zca HT_.out HW_.out (by kernel_rfl)) (fun _ _ _ h => h) (Or.inl ⟨by rfl, ?_⟩) hHeld ?_ ?_
        rotate_left
        ·rintro w' ⟨s0, s1, s2, s3, s4, s5, s6, s7, s8, s9, s10, s11, s12, s13, s14, s15, s16, s17, s18, s19, s20, s21, s22, s23, s24, s25, s26, s27, s28, s29, s30, s31, s32, s33, s34, s35, s36, s37, s38, s39, s40, s41, s42, s43, s44, s45, s46, s47, s48, s49, s50, s51, s52, s53, s54, s55, s56, s57, s58, s59, s60, s61, s62, s63⟩
         go_simp
         with_reducible rfl
        rotate_left
        ·simp only [Act.put, List.setIfInBounds_toArray, List.set_cons_zero, List.set_cons_succ, zm, zk]
         rfl
        refine one_ (i := 20) (N := some 45) (fm 23 21) rfl rfl (one_of HT_.out (by kernel_rfl)) (by decide) (fun K hK => ?_)
        refine goes_ Try.func54 (by kernel_rfl) rfl #[.agg #[.int .i8 a0_0, .int .i8 a0_1, .bool a0_2, .bool a0_3], .agg #[.int .i8 ((rd_T54 l1 x5_1).f2.f0), .bool ((rd_T54 l1 x5_1).f2.f1)]] (by rfl) rfl rfl (by (try simp only [List.map_toArray, List.map_cons, List.map_nil]); first | done | rfl | (simp only [List.length_drop, List.length_take]; rfl)) ?_
        with_reducible refine (spec_l03Find.calls k1 a0_0 a0_1 a0_2 a0_3 ((rd_T54 l1 x5_1).f2.f0) ((rd_T54 l1 x5_1).f2.f1) t146 _ A14.out).mono ?_
        rintro e w17 ⟨rfl, hb⟩
        refine ⟨_, rfl, ?_⟩
        have n0_ := zc.mk (zi (by (with_reducible repeat (first | refine zf ?_ _ | refine zh ?_ | refine zg ?_ _)); exact BK140.out) hb)
        have n1_ := zc.mk (zp (by repeat (first | (with_reducible first | exact HB.out | apply zd | apply za | apply zb | refine ze ?_ GE140.out) | exact HB.out)) hb)
        clear BK140
        clear HB
        have BK140 := n0_
        have HB := n1_
        clear n0_ n1_
        (try clear hb)
        (try clear hb2)
        (try clear hk)
        (try clear hi)
        refine hK.out _ _ ⟨(zr BK140.out 0).trans rfl, (zr BK140.out 1).trans rfl, (zr BK140.out 2).trans rfl, (zr BK140.out 3).trans rfl, (bc HB.out hw143_0), (bc HB.out hw143_1), (bc HB.out hw143_2), (bc HB.out hw143_3), (bc HB.out hw143_4), (bc HB.out hw143_5), (bc HB.out hw143_6), (bc HB.out hw143_7), (bc HB.out hw143_8), (bc HB.out hw143_9), (bc HB.out hw143_10), (bc HB.out hw143_11), (bc HB.out hw143_12), (bc HB.out hw143_13), (bc HB.out hw143_14), (bc HB.out hw143_15), (bc HB.out hw143_16), (bc HB.out hw143_17), (by first | exact (bc HB.out hw143_18) | (have h_ := (bc HB.out hw143_18); rw [← Nbq8.out] at h_; exact h_)), (by first | exact (bc HB.out hw143_19) | (have h_ := (bc HB.out hw143_19); rw [← Nbq8.out] at h_; exact h_)), (bc HB.out hw144_0), (bc HB.out hw144_1), (bc HB.out hw144_2), (bc HB.out hw144_3), (bc HB.out hw144_4), (bc HB.out hw144_5), (bc HB.out hw144_6), (bc HB.out hw144_7), (bc HB.out hw144_8), (bc HB.out hw144_9), (bc HB.out hw144_10), (bc HB.out hw144_11), (bc HB.out hw144_12), (bc HB.out hw144_13), (bc HB.out hw144_14), (bc HB.out hw144_15), (bc HB.out hw144_16), (bc HB.out hw144_17), (by first | exact (bc HB.out hw144_18) | (have h_ := (bc HB.out hw144_18); rw [← Nbq8.out] at h_; exact h_)), (by first | exact (bc HB.out hw144_19) | (have h_ := (bc HB.out hw144_19); rw [← Nbq8.out] at h_; exact h_)), (bc HB.out hw145_0), (bc HB.out hw145_1), (bc HB.out hw145_2), (bc HB.out hw145_3), (bc HB.out hw145_4), (bc HB.out hw145_5), (bc HB.out hw145_6), (bc HB.out hw145_7), (bc HB.out hw145_8), (bc HB.out hw145_9), (bc HB.out hw145_10), (bc HB.out hw145_11), (bc HB.out hw145_12), (bc HB.out hw145_13), (bc HB.out hw145_14), (bc HB.out hw145_15), (bc HB.out hw145_16), (bc HB.out hw145_17), (by first | exact (bc HB.out hw145_18) | (have h_ := (bc HB.out hw145_18); rw [← Nbq8.out] at h_; exact h_)), (by first | exact (bc HB.out hw145_19) | (have h_ := (bc HB.out hw145_19); rw [← Nbq8.out] at h_; exact h_))⟩ (fun hHeld => ?_)
        clear hK K
        refine norm_ (a' := ?_) ?_ ?_
        rotate_left
        ·show Act.put _ (some 45) _ = _
         simp only [Act.put, List.setIfInBounds_toArray, List.set_cons_zero, List.set_cons_succ, zm, zk]
         rfl
        refine pv 21 46 (fm 23 22) rfl rfl (zj HT_.out (by kernel_rfl)) (fun _ _ _ h => h) (Or.inl ⟨by rfl, by intro w'; go_simp; with_reducible rfl⟩) (by simp only [Act.put, ea, eb, ec, zm, zk]; rfl) ?_
        refine pv 22 47 (fm 23 23) rfl rfl (zj HT_.out (by kernel_rfl)) (fun _ _ _ h => h) (Or.inl ⟨by rfl, by intro w'; go_simp; with_reducible rfl⟩) (by simp only [Act.put, ea, eb, ec, zm, zk]; rfl) ?_
        refine done_ (done_of HT_.out (by kernel_rfl)) ?_
        try go_wp2
        go_ret
        exact ⟨by first | rfl | (simp [errW_none, errW_some] <;> rfl) | (simp [*, errW_none, errW_some] <;> rfl), by repeat (first | (with_reducible first | exact HB.out | apply zd | apply za | apply zb | refine ze ?_ GE140.out) | exact HB.out)⟩
       rw [if_neg c15] at H
       have c15b0 : decide (t146 < 0) = false := decide_eq_false c15
       clear c15
       have H' := zc.mk H
       clear H
       have p142 : 0 ≤ (x5_1 : Int) := of_decide_eq_true (by first | (with_reducible assumption) | assumption)
       have q142 : x5_1 < (l1.length : Int) := of_decide_eq_true (by first | (with_reducible assumption) | assumption)
       obtain ⟨ad142, e142, hx142_0, hx142_1, hx142_2, hx142_3, hx142_4, hx142_5, hx142_6, hx142_7, hx142_8, hx142_9, hx142_10, hx142_11, hx142_12, hx142_13, hx142_14, hx142_15, hx142_16, hx142_17, hx142_18, hx142_19⟩ := ac_T54 HB.out HR1.out x5_1 p142 q142
       (try rw [← Nbq8.out] at hx142_18)
       (try rw [← Nbq8.out] at hx142_19)
       cases e142
       replace p142 := eq_true p142
       replace q142 := eq_true q142
       try go_wp2
       have n0_ := zc.mk (zh BK140.out)
       have n1_ := zc.mk (zb HB.out)
       clear BK140
       clear HB
       have BK140 := n0_
       have HB := n1_
       clear n0_ n1_
       have p143 : 0 ≤ (x5_1 : Int) := of_decide_eq_true (by first | (with_reducible assumption) | assumption)
       have q143 : x5_1 < (l1.length : Int) := of_decide_eq_true (by first | (with_reducible assumption) | assumption)
       obtain ⟨ad143, e143, hx143_0, hx143_1, hx143_2, hx143_3, hx143_4, hx143_5, hx143_6, hx143_7, hx143_8, hx143_9, hx143_10, hx143_11, hx143_12, hx143_13, hx143_14, hx143_15, hx143_16, hx143_17, hx143_18, hx143_19, hw143_0, hw143_1, hw143_2, hw143_3, hw143_4, hw143_5, hw143_6, hw143_7, hw143_8, hw143_9, hw143_10, hw143_11, hw143_12, hw143_13, hw143_14, hw143_15, hw143_16, hw143_17, hw143_18, hw143_19⟩ := ab_T54 HB.out HR1.out x5_1 p143 q143
       (try rw [← Nbq8.out] at hx143_18)
       (try rw [← Nbq8.out] at hx143_19)
       obtain rfl : ad142 = ad143 := (by injection e143)
       replace p143 := eq_true p143
       replace q143 := eq_true q143
       have p144 : 0 ≤ (x5_1 : Int) := of_decide_eq_true (by first | (with_reducible assumption) | assumption)
       have q144 : x5_1 < (l1.length : Int) := of_decide_eq_true (by first | (with_reducible assumption) | assumption)
       obtain ⟨ad144, e144, hx144_0, hx144_1, hx144_2, hx144_3, hx144_4, hx144_5, hx144_6, hx144_7, hx144_8, hx144_9, hx144_10, hx144_11, hx144_12, hx144_13, hx144_14, hx144_15, hx144_16, hx144_17, hx144_18, hx144_19, hw144_0, hw144_1, hw144_2, hw144_3, hw144_4, hw144_5, hw144_6, hw144_7, hw144_8, hw144_9, hw144_10, hw144_11, hw144_12, hw144_13, hw144_14, hw144_15, hw144_16, hw144_17, hw144_18, hw144_19⟩ := ab_T54 HB.out HR1.out x5_1 p144 q144
       (try rw [← Nbq8.out] at hx144_18)
       (try rw [← Nbq8.out] at hx144_19)
       obtain rfl : ad142 = ad144 := (by injection e144)
       replace p144 := eq_true p144
       replace q144 := eq_true q144
       have p145 : 0 ≤ (x5_1 : Int) := of_decide_eq_true (by first | (with_reducible assumption) | assumption)
       have q145 : x5_1 < (l1.length : Int) := of_decide_eq_true (by first | (with_reducible assumption) | assumption)
       obtain ⟨ad145, e145, hx145_0, hx145_1, hx145_2, hx145_3, hx145_4, hx145_5, hx145_6, hx145_7, hx145_8, hx145_9, hx145_10, hx145_11, hx145_12, hx145_13, hx145_14, hx145_15, hx145_16, hx145_17, hx145_18, hx145_19, hw145_0, hw145_1, hw145_2, hw145_3, hw145_4, hw145_5, hw145_6, hw145_7, hw145_8, hw145_9, hw145_10, hw145_11, hw145_12, hw145_13, hw145_14, hw145_15, hw145_16, hw145_17, hw145_18, hw145_19⟩ := ab_T54 HB.out HR1.out x5_1 p145 q145
       (try rw [← Nbq8.out] at hx145_18)
       (try rw [← Nbq8.out] at hx145_19)
       obtain rfl : ad142 = ad145 := (by injection e145)
       replace p145 := eq_true p145
       replace q145 := eq_true q145
       refine start_ (n := 23) (S := fun w' => w'.cell? ⟨gb140, 0, none⟩ = some (.int .i8 a0_0) ∧ w'.cell? ⟨gb140, 1, none⟩ = some (.int .i8 a0_1) ∧ w'.cell? ⟨gb140, 2, none⟩ = some (.bool a0_2) ∧ w'.cell? ⟨gb140, 3, none⟩ = some (.bool a0_3) ∧ w'.cell? (ad142.add ((x5_1).toNat * 20)) = some (.int .i8 ((rd_T54 l1 x5_1).f0.f0)) ∧ w'.cell? ⟨(ad142.add ((x5_1).toNat * 20)).block, (ad142.add ((x5_1).toNat * 20)).off + 1, none⟩ = some (.int .i8 ((rd_T54 l1 x5_1).f0.f1)) ∧ w'.cell? ⟨(ad142.add ((x5_1).toNat * 20)).block, (ad142.add ((x5_1).toNat * 20)).off + 2, none⟩ = some (.int .i8 ((rd_T54 l1 x5_1).f0.f2)) ∧ w'.cell? ⟨(ad142.add ((x5_1).toNat * 20)).block, (ad142.add ((x5_1).toNat * 20)).off + 3, none⟩ = some (.int .i8 ((rd_T54 l1 x5_1).f0.f3)) ∧ w'.cell? ⟨(ad142.add ((x5_1).toNat * 20)).block, (ad142.add ((x5_1).toNat * 20)).off + 4, none⟩ = some (.int .i8 ((rd_T54 l1 x5_1).f0.f4)) ∧ w'.cell? ⟨(ad142.add ((x5_1).toNat * 20)).block, (ad142.add ((x5_1).toNat * 20)).off + 5, none⟩ = some (.int .i8 ((rd_T54 l1 x5_1).f0.f5)) ∧ w'.cell? ⟨(ad142.add ((x5_1).toNat * 20)).block, (ad142.add ((x5_1).toNat * 20)).off + 6, none⟩ = some (.int .i8 ((rd_T54 l1 x5_1).f0.f6)) ∧ w'.cell? ⟨(ad142.add ((x5_1).toNat * 20)).block, (ad142.add ((x5_1).toNat * 20)).off + 7, none⟩ = some (.int .i8 ((rd_T54 l1 x5_1).f0.f7)) ∧ w'.cell? ⟨(ad142.add ((x5_1).toNat * 20)).block, (ad142.add ((x5_1).toNat * 20)).off + 8, none⟩ = some (.int .i8 ((rd_T54 l1 x5_1).f0.f8)) ∧ w'.cell? ⟨(ad142.add ((x5_1).toNat * 20)).block, (ad142.add ((x5_1).toNat * 20)).off + 9, none⟩ = some (.int .i8 ((rd_T54 l1 x5_1).f0.f9)) ∧ w'.cell? ⟨(ad142.add ((x5_1).toNat * 20)).block, (ad142.add ((x5_1).toNat * 20)).off + 10, none⟩ = some (.int .i8 ((rd_T54 l1 x5_1).f0.f10)) ∧ w'.cell? ⟨(ad142.add ((x5_1).toNat * 20)).block, (ad142.add ((x5_1).toNat * 20)).off + 11, none⟩ = some (.int .i8 ((rd_T54 l1 x5_1).f0.f11)) ∧ w'.cell? ⟨(ad142.add ((x5_1).toNat * 20)).block, (ad142.add ((x5_1).toNat * 20)).off + 12, none⟩ = some (.int .i8 ((rd_T54 l1 x5_1).f0.f12)) ∧ w'.cell? ⟨(ad142.add ((x5_1).toNat * 20)).block, (ad142.add ((x5_1).toNat * 20)).off + 13, none⟩ = some (.int .i8 ((rd_T54 l1 x5_1).f0.f13)) ∧ w'.cell? ⟨(ad142.add ((x5_1).toNat * 20)).block, (ad142.add ((x5_1).toNat * 20)).off + 14, none⟩ = some (.int .i16 ((rd_T54 l1 x5_1).f1.f0)) ∧ w'.cell? ⟨(ad142.add ((x5_1).toNat * 20)).block, (ad142.add ((x5_1).toNat * 20)).off + 15, none⟩ = some (.int .i16 ((rd_T54 l1 x5_1).f1.f1)) ∧ w'.cell? ⟨(ad142.add ((x5_1).toNat * 20)).block, (ad142.add ((x5_1).toNat * 20)).off + 16, none⟩ = some (.int .i16 ((rd_T54 l1 x5_1).f1.f2)) ∧ w'.cell? ⟨(ad142.add ((x5_1).toNat * 20)).block, (ad142.add ((x5_1).toNat * 20)).off + 17, none⟩ = some (.int .i8 ((rd_T54 l1 x5_1).f2.f0)) ∧ w'.cell? ⟨(ad142.add ((x5_1).toNat * 20)).block, (ad142.add ((x5_1).toNat * 20)).off + 18, none⟩ = some (.bool ((rd_T54 l1 x5_1).f2.f1)) ∧ w'.cell? ⟨(ad142.add ((x5_1).toNat * 20)).block, (ad142.add ((x5_1).toNat * 20)).off + 19, none⟩ = some (.bool (true)) ∧ w'.cell? (ad142.add ((x5_1).toNat * 20)) = some (.int .i8 ((rd_T54 l1 x5_1).f0.f0)) ∧ w'.cell? ⟨(ad142.add ((x5_1).toNat * 20)).block, (ad142.add ((x5_1).toNat * 20)).off + 1, none⟩ = some (.int .i8 ((rd_T54 l1 x5_1).f0.f1)) ∧ w'.cell? ⟨(ad142.add ((x5_1).toNat * 20)).block, (ad142.add ((x5_1).toNat * 20)).off + 2, none⟩ = some (.int .i8 ((rd_T54 l1 x5_1).f0.f2)) ∧ w'.cell? ⟨(ad142.add ((x5_1).toNat * 20)).block, (ad142.add ((x5_1).toNat * 20)).off + 3, none⟩ = some (.int .i8 ((rd_T54 l1 x5_1).f0.f3)) ∧ w'.cell? ⟨(ad142.add ((x5_1).toNat * 20)).block, (ad142.add ((x5_1).toNat * 20)).off + 4, none⟩ = some (.int .i8 ((rd_T54 l1 x5_1).f0.f4)) ∧ w'.cell? ⟨(ad142.add ((x5_1).toNat * 20)).block, (ad142.add ((x5_1).toNat * 20)).off + 5, none⟩ = some (.int .i8 ((rd_T54 l1 x5_1).f0.f5)) ∧ w'.cell? ⟨(ad142.add ((x5_1).toNat * 20)).block, (ad142.add ((x5_1).toNat * 20)).off + 6, none⟩ = some (.int .i8 ((rd_T54 l1 x5_1).f0.f6)) ∧ w'.cell? ⟨(ad142.add ((x5_1).toNat * 20)).block, (ad142.add ((x5_1).toNat * 20)).off + 7, none⟩ = some (.int .i8 ((rd_T54 l1 x5_1).f0.f7)) ∧ w'.cell? ⟨(ad142.add ((x5_1).toNat * 20)).block, (ad142.add ((x5_1).toNat * 20)).off + 8, none⟩ = some (.int .i8 ((rd_T54 l1 x5_1).f0.f8)) ∧ w'.cell? ⟨(ad142.add ((x5_1).toNat * 20)).block, (ad142.add ((x5_1).toNat * 20)).off + 9, none⟩ = some (.int .i8 ((rd_T54 l1 x5_1).f0.f9)) ∧ w'.cell? ⟨(ad142.add ((x5_1).toNat * 20)).block, (ad142.add ((x5_1).toNat * 20)).off + 10, none⟩ = some (.int .i8 ((rd_T54 l1 x5_1).f0.f10)) ∧ w'.cell? ⟨(ad142.add ((x5_1).toNat * 20)).block, (ad142.add ((x5_1).toNat * 20)).off + 11, none⟩ = some (.int .i8 ((rd_T54 l1 x5_1).f0.f11)) ∧ w'.cell? ⟨(ad142.add ((x5_1).toNat * 20)).block, (ad142.add ((x5_1).toNat * 20)).off + 12, none⟩ = some (.int .i8 ((rd_T54 l1 x5_1).f0.f12)) ∧ w'.cell? ⟨(ad142.add ((x5_1).toNat * 20)).block, (ad142.add ((x5_1).toNat * 20)).off + 13, none⟩ = some (.int .i8 ((rd_T54 l1 x5_1).f0.f13)) ∧ w'.cell? ⟨(ad142.add ((x5_1).toNat * 20)).block, (ad142.add ((x5_1).toNat * 20)).off + 14, none⟩ = some (.int .i16 ((rd_T54 l1 x5_1).f1.f0)) ∧ w'.cell? ⟨(ad142.add ((x5_1).toNat * 20)).block, (ad142.add ((x5_1).toNat * 20)).off + 15, none⟩ = some (.int .i16 ((rd_T54 l1 x5_1).f1.f1)) ∧ w'.cell? ⟨(ad142.add ((x5_1).toNat * 20)).block, (ad142.add ((x5_1).toNat * 20)).off + 16, none⟩ = some (.int .i16 ((rd_T54 l1 x5_1).f1.f2)) ∧ w'.cell? ⟨(ad142.add ((x5_1).toNat * 20)).block, (ad142.add ((x5_1).toNat * 20)).off + 17, none⟩ = some (.int .i8 ((rd_T54 l1 x5_1).f2.f0)) ∧ w'.cell? ⟨(ad142.add ((x5_1).toNat * 20)).block, (ad142.add ((x5_1).toNat * 20)).off + 18, none⟩ = some (.bool ((rd_T54 l1 x5_1).f2.f1)) ∧ w'.cell? ⟨(ad142.add ((x5_1).toNat * 20)).block, (ad142.add ((x5_1).toNat * 20)).off + 19, none⟩ = some (.bool (true)) ∧ w'.cell? (ad142.add ((x5_1).toNat * 20)) = some (.int .i8 ((rd_T54 l1 x5_1).f0.f0)) ∧ w'.cell? ⟨(ad142.add ((x5_1).toNat * 20)).block, (ad142.add ((x5_1).toNat * 20)).off + 1, none⟩ = some (.int .i8 ((rd_T54 l1 x5_1).f0.f1)) ∧ w'.cell? ⟨(ad142.add ((x5_1).toNat * 20)).block, (ad142.add ((x5_1).toNat * 20)).off + 2, none⟩ = some (.int .i8 ((rd_T54 l1 x5_1).f0.f2)) ∧ w'.cell? ⟨(ad142.add ((x5_1).toNat * 20)).block, (ad142.add ((x5_1).toNat * 20)).off + 3, none⟩ = some (.int .i8 ((rd_T54 l1 x5_1).f0.f3)) ∧ w'.cell? ⟨(ad142.add ((x5_1).toNat * 20)).block, (ad142.add ((x5_1).toNat * 20)).off + 4, none⟩ = some (.int .i8 ((rd_T54 l1 x5_1).f0.f4)) ∧ w'.cell? ⟨(ad142.add ((x5_1).toNat * 20)).block, (ad142.add ((x5_1).toNat * 20)).off + 5, none⟩ = some (.int .i8 ((rd_T54 l1 x5_1).f0.f5)) ∧ w'.cell? ⟨(ad142.add ((x5_1).toNat * 20)).block, (ad142.add ((x5_1).toNat * 20)).off + 6, none⟩ = some (.int .i8 ((rd_T54 l1 x5_1).f0.f6)) ∧ w'.cell? ⟨(ad142.add ((x5_1).toNat * 20)).block, (ad142.add ((x5_1).toNat * 20)).off + 7, none⟩ = some (.int .i8 ((rd_T54 l1 x5_1).f0.f7)) ∧ w'.cell? ⟨(ad142.add ((x5_1).toNat * 20)).block, (ad142.add ((x5_1).toNat * 20)).off + 8, none⟩ = some (.int .i8 ((rd_T54 l1 x5_1).f0.f8)) ∧ w'.cell? ⟨(ad142.add ((x5_1).toNat * 20)).block, (ad142.add ((x5_1).toNat * 20)).off + 9, none⟩ = some (.int .i8 ((rd_T54 l1 x5_1).f0.f9)) ∧ w'.cell? ⟨(ad142.add ((x5_1).toNat * 20)).block, (ad142.add ((x5_1).toNat * 20)).off + 10, none⟩ = some (.int .i8 ((rd_T54 l1 x5_1).f0.f10)) ∧ w'.cell? ⟨(ad142.add ((x5_1).toNat * 20)).block, (ad142.add ((x5_1).toNat * 20)).off + 11, none⟩ = some (.int .i8 ((rd_T54 l1 x5_1).f0.f11)) ∧ w'.cell? ⟨(ad142.add ((x5_1).toNat * 20)).block, (ad142.add ((x5_1).toNat * 20)).off + 12, none⟩ = some (.int .i8 ((rd_T54 l1 x5_1).f0.f12)) ∧ w'.cell? ⟨(ad142.add ((x5_1).toNat * 20)).block, (ad142.add ((x5_1).toNat * 20)).off + 13, none⟩ = some (.int .i8 ((rd_T54 l1 x5_1).f0.f13)) ∧ w'.cell? ⟨(ad142.add ((x5_1).toNat * 20)).block, (ad142.add ((x5_1).toNat * 20)).off + 14, none⟩ = some (.int .i16 ((rd_T54 l1 x5_1).f1.f0)) ∧ w'.cell? ⟨(ad142.add ((x5_1).toNat * 20)).block, (ad142.add ((x5_1).toNat * 20)).off + 15, none⟩ = some (.int .i16 ((rd_T54 l1 x5_1).f1.f1)) ∧ w'.cell? ⟨(ad142.add ((x5_1).toNat * 20)).block, (ad142.add ((x5_1).toNat * 20)).off + 16, none⟩ = some (.int .i16 ((rd_T54 l1 x5_1).f1.f2)) ∧ w'.cell? ⟨(ad142.add ((x5_1).toNat * 20)).block, (ad142.add ((x5_1).toNat * 20)).off + 17, none⟩ = some (.int .i8 ((rd_T54 l1 x5_1).f2.f0)) ∧ w'.cell? ⟨(ad142.add ((x5_1).toNat * 20)).block, (ad142.add ((x5_1).toNat * 20)).off + 18, none⟩ = some (.bool ((rd_T54 l1 x5_1).f2.f1)) ∧ w'.cell? ⟨(ad142.add ((x5_1).toNat * 20)).block, (ad142.add ((x5_1).toNat * 20)).off + 19, none⟩ = some (.bool (true))) (ds := []) (fm 23 0) (by kernel_rfl) rfl rfl ⟨(zr BK140.out 0).trans rfl, (zr BK140.out 1).trans rfl, (zr BK140.out 2).trans rfl, (zr BK140.out 3).trans rfl, (bc HB.out hw143_0), (bc HB.out hw143_1), (bc HB.out hw143_2), (bc HB.out hw143_3), (bc HB.out hw143_4), (bc HB.out hw143_5), (bc HB.out hw143_6), (bc HB.out hw143_7), (bc HB.out hw143_8), (bc HB.out hw143_9), (bc HB.out hw143_10), (bc HB.out hw143_11), (bc HB.out hw143_12), (bc HB.out hw143_13), (bc HB.out hw143_14), (bc HB.out hw143_15), (bc HB.out hw143_16), (bc HB.out hw143_17), (by first | exact (bc HB.out hw143_18) | (have h_ := (bc HB.out hw143_18); rw [← Nbq8.out] at h_; exact h_)), (by first | exact (bc HB.out hw143_19) | (have h_ := (bc HB.out hw143_19); rw [← Nbq8.out] at h_; exact h_)), (bc HB.out hw144_0), (bc HB.out hw144_1), (bc HB.out hw144_2), (bc HB.out hw144_3), (bc HB.out hw144_4), (bc HB.out hw144_5), (bc HB.out hw144_6), (bc HB.out hw144_7), (bc HB.out hw144_8), (bc HB.out hw144_9), (bc HB.out hw144_10), (bc HB.out hw144_11), (bc HB.out hw144_12), (bc HB.out hw144_13), (bc HB.out hw144_14), (bc HB.out hw144_15), (bc HB.out hw144_16), (bc HB.out hw144_17), (by first | exact (bc HB.out hw144_18) | (have h_ := (bc HB.out hw144_18); rw [← Nbq8.out] at h_; exact h_)), (by first | exact (bc HB.out hw144_19) | (have h_ := (bc HB.out hw144_19); rw [← Nbq8.out] at h_; exact h_)), (bc HB.out hw145_0), (bc HB.out hw145_1), (bc HB.out hw145_2), (bc HB.out hw145_3), (bc HB.out hw145_4), (bc HB.out hw145_5), (bc HB.out hw145_6), (bc HB.out hw145_7), (bc HB.out hw145_8), (bc HB.out hw145_9), (bc HB.out hw145_10), (bc HB.out hw145_11), (bc HB.out hw145_12), (bc HB.out hw145_13), (bc HB.out hw145_14), (bc HB.out hw145_15), (bc HB.out hw145_16), (bc HB.out hw145_17), (by first | exact (bc HB.out hw145_18) | (have h_ := (bc HB.out hw145_18); rw [← Nbq8.out] at h_; exact h_)), (by first | exact (bc HB.out hw145_19) | (have h_ := (bc HB.out hw145_19); rw [← Nbq8.out] at h_; exact h_))⟩ (fun hHeld => ?_); refine zma spec_l03Plan.tab8 spec_l03Plan.bits8 (fun HT_ HW_ => ?_)
       generalize wr.drew = w18 at BK140 HB hx143_0 hx143_1 hx143_10 hx143_11 hx143_12 hx143_13 hx143_14 hx143_15 hx143_16 hx143_17 hx143_18 hx143_19 hx143_2 hx143_3 hx143_4 hx143_5 hx143_6 hx143_7 hx143_8 hx143_9 hx144_0 hx144_1 hx144_10 hx144_11 hx144_12 hx144_13 hx144_14 hx144_15 hx144_16 hx144_17 hx144_18 hx144_19 hx144_2 hx144_3 hx144_4 hx144_5 hx144_6 hx144_7 hx144_8 hx144_9 hx145_0 hx145_1 hx145_10 hx145_11 hx145_12 hx145_13 hx145_14 hx145_15 hx145_16 hx145_17 hx145_18 hx145_19 hx145_2 hx145_3 hx145_4 hx145_5 hx145_6 hx145_7 hx145_8 hx145_9 hHeld ⊢
       refine pv 0 25 (fm 23 1) rfl rfl (zj HT_.out (by kernel_rfl)) (fun _ _ _ h => h) (Or.inl ⟨by rfl, by intro w'; go_simp; with_reducible rfl⟩) (by simp only [Act.put, ea, eb, ec, zm, zk]; rfl) ?_
       refine pv 1 26 (fm 23 2) rfl rfl (zj HT_.out (by kernel_rfl)) (fun _ _ _ h => h) (Or.inl ⟨by rfl, by intro w'; go_simp; with_reducible rfl⟩) (by simp only [Act.put, ea, eb, ec, zm, zk]; rfl) ?_
       refine pv 2 27 (fm 23 3) rfl rfl (zj HT_.out (by kernel_rfl)) (fun _ _ _ h => h) (Or.inl ⟨by rfl, by intro w'; go_simp; with_reducible rfl⟩) (by simp only [Act.put, ea, eb, ec, zm, zk]; rfl) ?_
       refine pv 4 29 #[T, T, T, F, T, F, F, F, F, F, F, F, F, F, F, F, F, F, F, F, F, F, F] rfl rfl (zj HT_.out (by kernel_rfl)) (fun _ _ _ h => h) (Or.inl ⟨by rfl, by intro w'; go_simp; with_reducible rfl⟩) (by simp only [Act.put, ea, eb, ec, zm, zk]; rfl) ?_
       refine take_ (i := 3) (N := some 28) (v := ?_) (a' := ?_) (fm 23 5) rfl rfl (zca HT_.out HW_.out (by kernel_rfl)) (fun _ _ _ h => h) (Or.inl ⟨by rfl, ?_⟩) hHeld ?_ ?_
       rotate_left
       ·rintro w' ⟨s0, s1, s2, s3, s4, s5, s6, s7, s8, s9, s10, s11, s12, s13, s14, s15, s16, s17, s18, s19, s20, s21, s22, s23, s24, s25, s26, s27, s28, s29, s30, s31, s32, s33, s34, s35, s36, s37, s38, s39, s40, s41, s42, s43, s44, s45, s46, s47, s48, s49, s50, s51, s52, s53, s54, s55, s56, s57, s58, s59, s60, s61, s62, s63⟩
        go_simp
        with_reducible rfl
       rotate_left
       ·simp only [Act.put, List.setIfInBounds_toArray, List.set_cons_zero, List.set_cons_succ, zm, zk]
        rfl
       refine pv 5 30 (fm 23 6) rfl rfl (zj HT_.out (by kernel_rfl)) (fun _ _ _ h => h) (Or.inl ⟨by rfl, by intro w'; go_simp; with_reducible rfl⟩) (by simp only [Act.put, ea, eb, ec, zm, zk]; rfl) ?_
       refine pv 6 31 (fm 23 7) rfl rfl (zj HT_.out (by kernel_rfl)) (fun _ _ _ h => h) (Or.inl ⟨by rfl, by intro w'; go_simp; with_reducible rfl⟩) (by simp only [Act.put, ea, eb, ec, zm, zk]; rfl) ?_
       refine pv 7 32 (fm 23 8) rfl rfl (zj HT_.out (by kernel_rfl)) (fun _ _ _ h => h) (Or.inl ⟨by rfl, by intro w'; go_simp; with_reducible rfl⟩) (by simp only [Act.put, ea, eb, ec, zm, zk]; rfl) ?_
       refine pv 8 33 (fm 23 9) rfl rfl (zj HT_.out (by kernel_rfl)) (fun _ _ _ h => h) (Or.inl ⟨by rfl, by intro w'; go_simp; with_reducible rfl⟩) (by simp only [Act.put, ea, eb, ec, zm, zk]; rfl) ?_
       refine pv 9 34 (fm 23 10) rfl rfl (zj HT_.out (by kernel_rfl)) (fun _ _ _ h => h) (Or.inl ⟨by rfl, by intro w'; go_simp; with_reducible rfl⟩) (by simp only [Act.put, ea, eb, ec, zm, zk]; rfl) ?_
       refine pv 11 36 #[T, T, T, T, T, T, T, T, T, T, F, T, F, F, F, F, F, F, F, F, F, F, F] rfl rfl (zj HT_.out (by kernel_rfl)) (fun _ _ _ h => h) (Or.inl ⟨by rfl, by intro w'; go_simp; with_reducible rfl⟩) (by simp only [Act.put, ea, eb, ec, zm, zk]; rfl) ?_
       refine take_ (i := 10) (N := some 35) (v := ?_) (a' := ?_) (fm 23 12) rfl rfl (zca HT_.out HW_.out (by kernel_rfl)) (fun _ _ _ h => h) (Or.inl ⟨by rfl, ?_⟩) hHeld ?_ ?_
       rotate_left
       ·rintro w' ⟨s0, s1, s2, s3, s4, s5, s6, s7, s8, s9, s10, s11, s12, s13, s14, s15, s16, s17, s18, s19, s20, s21, s22, s23, s24, s25, s26, s27, s28, s29, s30, s31, s32, s33, s34, s35, s36, s37, s38, s39, s40, s41, s42, s43, s44, s45, s46, s47, s48, s49, s50, s51, s52, s53, s54, s55, s56, s57, s58, s59, s60, s61, s62, s63⟩
        go_simp
        with_reducible rfl
       rotate_left
       ·simp only [Act.put, List.setIfInBounds_toArray, List.set_cons_zero, List.set_cons_succ, zm, zk]
        rfl
       refine pv 12 37 (fm 23 13) rfl rfl (zj HT_.out (by kernel_rfl)) (fun _ _ _ h => h) (Or.inl ⟨by rfl, by intro w'; go_simp; with_reducible rfl⟩) (by simp only [Act.put, ea, eb, ec, zm, zk]; rfl) ?_
       refine pv 13 38 (fm 23 14) rfl rfl (zj HT_.out (by kernel_rfl)) (fun _ _ _ h => h) (Or.inl ⟨by rfl, by intro w'; go_simp; with_reducible rfl⟩) (by simp only [Act.put, ea, eb, ec, zm, zk]; rfl) ?_
       refine pv 14 39 (fm 23 15) rfl rfl (zj HT_.out (by kernel_rfl)) (fun _ _ _ h => h) (Or.inl ⟨by rfl, by intro w'; go_simp; with_reducible rfl⟩) (by simp only [Act.put, ea, eb, ec, zm, zk]; rfl) ?_
       refine pv 16 41 #[T, T, T, T, T, T, T, T, T, T, T, T, T, T, T, F, T, F, F, F, F, F, F] rfl rfl (zj HT_.out (by kernel_rfl)) (fun _ _ _ h => h) (Or.inl ⟨by rfl, by intro w'; go_simp; with_reducible rfl⟩) (by simp only [Act.put, ea, eb, ec, zm, zk]; rfl) ?_
       refine pv 17 42 #[T, T, T, T, T, T, T, T, T, T, T, T, T, T, T, F, T, T, F, F, F, F, F] rfl rfl (zj HT_.out (by kernel_rfl)) (fun _ _ _ h => h) (Or.inl ⟨by rfl, by intro w'; go_simp; with_reducible rfl⟩) (by simp only [Act.put, ea, eb, ec, zm, zk]; rfl) ?_
       refine pv 18 43 #[T, T, T, T, T, T, T, T, T, T, T, T, T, T, T, F, T, T, T, F, F, F, F] rfl rfl (zj HT_.out (by kernel_rfl)) (fun _ _ _ h => h) (Or.inl ⟨by rfl, by intro w'; go_simp; with_reducible rfl⟩) (by simp only [Act.put, ea, eb, ec, zm, zk]; rfl) ?_
       refine take_ (i := 15) (N := some 40) (v := ?_) (a' := ?_) (fm 23 19) rfl rfl (zca HT_.out HW_.out (by kernel_rfl)) (fun _ _ _ h => h) (Or.inl ⟨by rfl, ?_⟩) hHeld ?_ ?_
       rotate_left
       ·rintro w' ⟨s0, s1, s2, s3, s4, s5, s6, s7, s8, s9, s10, s11, s12, s13, s14, s15, s16, s17, s18, s19, s20, s21, s22, s23, s24, s25, s26, s27, s28, s29, s30, s31, s32, s33, s34, s35, s36, s37, s38, s39, s40, s41, s42, s43, s44, s45, s46, s47, s48, s49, s50, s51, s52, s53, s54, s55, s56, s57, s58, s59, s60, s61, s62, s63⟩
        go_simp
        with_reducible rfl
       rotate_left
       ·simp only [Act.put, List.setIfInBounds_toArray, List.set_cons_zero, List.set_cons_succ, zm, zk]
        rfl
       refine take_ (i := 19) (N := some 44) (v := ?_) (a' := ?_) (fm 23 20) rfl rfl (zca HT_.out HW_.out (by kernel_rfl)) (fun _ _ _ h => h) (Or.inl ⟨by rfl, ?_⟩) hHeld ?_ ?_
       rotate_left
       ·rintro w' ⟨s0, s1, s2, s3, s4, s5, s6, s7, s8, s9, s10, s11, s12, s13, s14, s15, s16, s17, s18, s19, s20, s21, s22, s23, s24, s25, s26, s27, s28, s29, s30, s31, s32, s33, s34, s35, s36, s37, s38, s39, s40, s41, s42, s43, s44, s45, s46, s47, s48, s49, s50, s51, s52, s53, s54, s55, s56, s57, s58, s59, s60, s61, s62, s63⟩
        go_simp
        with_reducible rfl
       rotate_left
       ·simp only [Act.put, List.setIfInBounds_toArray, List.set_cons_zero, List.set_cons_succ, zm, zk]
        rfl
       refine one_ (i := 20) (N := some 45) (fm 23 21) rfl rfl (one_of HT_.out (by kernel_rfl)) (by decide) (fun K hK => ?_)
       refine goes_ Try.func54 (by kernel_rfl) rfl #[.agg #[.int .i8 a0_0, .int .i8 a0_1, .bool a0_2, .bool a0_3], .agg #[.int .i8 ((rd_T54 l1 x5_1).f2.f0), .bool ((rd_T54 l1 x5_1).f2.f1)]] (by rfl) rfl rfl (by (try simp only [List.map_toArray, List.map_cons, List.map_nil]); first | done | rfl | (simp only [List.length_drop, List.length_take]; rfl)) ?_
       with_reducible refine (spec_l03Find.calls k1 a0_0 a0_1 a0_2 a0_3 ((rd_T54 l1 x5_1).f2.f0) ((rd_T54 l1 x5_1).f2.f1) t146 _ A14.out).mono ?_
       rintro e w19 ⟨rfl, hb⟩
       refine ⟨_, rfl, ?_⟩
       have n0_ := zc.mk (zi (by (with_reducible repeat (first | refine zf ?_ _ | refine zh ?_ | refine zg ?_ _)); exact BK140.out) hb)
       have n1_ := zc.mk (zp (by repeat (first | (with_reducible first | exact HB.out | apply zd | apply za | apply zb | refine ze ?_ GE140.out) | exact HB.out)) hb)
       clear BK140
       clear HB
       have BK140 := n0_
       have HB := n1_
       clear n0_ n1_
       (try clear hb)
       (try clear hb2)
       (try clear hk)
       (try clear hi)
       refine hK.out _ _ ⟨(zr BK140.out 0).trans rfl, (zr BK140.out 1).trans rfl, (zr BK140.out 2).trans rfl, (zr BK140.out 3).trans rfl, (bc HB.out hw143_0), (bc HB.out hw143_1), (bc HB.out hw143_2), (bc HB.out hw143_3), (bc HB.out hw143_4), (bc HB.out hw143_5), (bc HB.out hw143_6), (bc HB.out hw143_7), (bc HB.out hw143_8), (bc HB.out hw143_9), (bc HB.out hw143_10), (bc HB.out hw143_11), (bc HB.out hw143_12), (bc HB.out hw143_13), (bc HB.out hw143_14), (bc HB.out hw143_15), (bc HB.out hw143_16), (bc HB.out hw143_17), (by first | exact (bc HB.out hw143_18) | (have h_ := (bc HB.out hw143_18); rw [← Nbq8.out] at h_; exact h_)), (by first | exact (bc HB.out hw143_19) | (have h_ := (bc HB.out hw143_19); rw [← Nbq8.out] at h_; exact h_)), (bc HB.out hw144_0), (bc HB.out hw144_1), (bc HB.out hw144_2), (bc HB.out hw144_3), (bc HB.out hw144_4), (bc HB.out hw144_5), (bc HB.out hw144_6), (bc HB.out hw144_7), (bc HB.out hw144_8), (bc HB.out hw144_9), (bc HB.out hw144_10), (bc HB.out hw144_11), (bc HB.out hw144_12), (bc HB.out hw144_13), (bc HB.out hw144_14), (bc HB.out hw144_15), (bc HB.out hw144_16), (bc HB.out hw144_17), (by first | exact (bc HB.out hw144_18) | (have h_ := (bc HB.out hw144_18); rw [← Nbq8.out] at h_; exact h_)), (by first | exact (bc HB.out hw144_19) | (have h_ := (bc HB.out hw144_19); rw [← Nbq8.out] at h_; exact h_)), (bc HB.out hw145_0), (bc HB.out hw145_1), (bc HB.out hw145_2), (bc HB.out hw145_3), (bc HB.out hw145_4), (bc HB.out hw145_5), (bc HB.out hw145_6), (bc HB.out hw145_7), (bc HB.out hw145_8), (bc HB.out hw145_9), (bc HB.out hw145_10), (bc HB.out hw145_11), (bc HB.out hw145_12), (bc HB.out hw145_13), (bc HB.out hw145_14), (bc HB.out hw145_15), (bc HB.out hw145_16), (bc HB.out hw145_17), (by first | exact (bc HB.out hw145_18) | (have h_ := (bc HB.out hw145_18); rw [← Nbq8.out] at h_; exact h_)), (by first | exact (bc HB.out hw145_19) | (have h_ := (bc HB.out hw145_19); rw [← Nbq8.out] at h_; exact h_))⟩ (fun hHeld => ?_)
       clear hK K
       refine norm_ (a' := ?_) ?_ ?_
       rotate_left
       ·show Act.put _ (some 45) _ = _
        simp only [Act.put, List.setIfInBounds_toArray, List.set_cons_zero, List.set_cons_succ, zm, zk]
        rfl
       refine pv 21 46 (fm 23 22) rfl rfl (zj HT_.out (by kernel_rfl)) (fun _ _ _ h => h) (Or.inl ⟨by rfl, by intro w'; go_simp; with_reducible rfl⟩) (by simp only [Act.put, ea, eb, ec, zm, zk]; rfl) ?_
       refine pv 22 47 (fm 23 23) rfl rfl (zj HT_.out (by kernel_rfl)) (fun _ _ _ h => h) (Or.inl ⟨by rfl, by intro w'; go_simp; with_reducible rfl⟩) (by simp only [Act.put, ea, eb, ec, zm, zk]; rfl) ?_
       refine done_ (done_of HT_.out (by kernel_rfl)) ?_
       try go_wp2
       go_roundg k1
       case measure => have := HK1.out; omega
       case rel => exact ⟨(wrap64 (x5_1 + 1)), (by first | rfl | (simp; done) | (simp [*]; done)), H', ⟨by have := HK1.out; omega⟩, ⟨by (with_reducible repeat (first | refine zf ?_ _ | refine zh ?_ | refine zg ?_ _)); exact BK140.out⟩, ⟨by repeat (first | (with_reducible first | exact HB.out | apply zd | apply za | apply zb | refine ze ?_ GE140.out) | exact HB.out)⟩⟩
      replace c9 := Bool.eq_false_iff.mpr c9
      subst c9
      have H1 : (if (((rd_T54 l1 x5_1).f0.f0) == 0 && (((rd_T54 l1 x5_1).f0.f1) == 0 && (((rd_T54 l1 x5_1).f0.f2) == 0 && (((rd_T54 l1 x5_1).f0.f3) == 0 && (((rd_T54 l1 x5_1).f0.f4) == 0 && (((rd_T54 l1 x5_1).f0.f5) == 0 && (((rd_T54 l1 x5_1).f0.f6) == 0 && (((rd_T54 l1 x5_1).f0.f7) == 0 && (((rd_T54 l1 x5_1).f0.f8) == 0 && (((rd_T54 l1 x5_1).f0.f9) == 0 && (((rd_T54 l1 x5_1).f0.f10) == 0 && (((rd_T54 l1 x5_1).f0.f11) == 0 && (((rd_T54 l1 x5_1).f0.f12) == 0 && (((rd_T54 l1 x5_1).f0.f13) == 0)))))))))))))) = true then (spec_l03Plan.j1 k1 l1 x5_1 true a0_0 a0_1 a0_2 a0_3) else ((spec_l03Weighing.f k1 a0_0 a0_1 a0_2 a0_3 ((rd_T54 l1 x5_1).f0.f0) ((rd_T54 l1 x5_1).f0.f1) ((rd_T54 l1 x5_1).f0.f2) ((rd_T54 l1 x5_1).f0.f3) ((rd_T54 l1 x5_1).f0.f4) ((rd_T54 l1 x5_1).f0.f5) ((rd_T54 l1 x5_1).f0.f6) ((rd_T54 l1 x5_1).f0.f7) ((rd_T54 l1 x5_1).f0.f8) ((rd_T54 l1 x5_1).f0.f9) ((rd_T54 l1 x5_1).f0.f10) ((rd_T54 l1 x5_1).f0.f11) ((rd_T54 l1 x5_1).f0.f12) ((rd_T54 l1 x5_1).f0.f13)).bind fun t149 => (if t149 = true then (spec_l03Plan.j1 k1 l1 x5_1 (!(((rd_T54 l1 x5_1).f2.f0) == 0) || (((rd_T54 l1 x5_1).f2.f1))) a0_0 a0_1 a0_2 a0_3) else (spec_l03Plan.j1 k1 l1 x5_1 true a0_0 a0_1 a0_2 a0_3)))) = some r := by rw [if_neg (show ¬ (false = true) by decide)] at H; exact H
      clear H
      have H := H1
      clear H1
      have HC20 := zc.mk H
      clear H
      have p142 : 0 ≤ (x5_1 : Int) := of_decide_eq_true (by first | (with_reducible assumption) | assumption)
      have q142 : x5_1 < (l1.length : Int) := of_decide_eq_true (by first | (with_reducible assumption) | assumption)
      obtain ⟨ad142, e142, hx142_0, hx142_1, hx142_2, hx142_3, hx142_4, hx142_5, hx142_6, hx142_7, hx142_8, hx142_9, hx142_10, hx142_11, hx142_12, hx142_13, hx142_14, hx142_15, hx142_16, hx142_17, hx142_18, hx142_19⟩ := ac_T54 HB.out HR1.out x5_1 p142 q142
      (try rw [← Nbq8.out] at hx142_18)
      (try rw [← Nbq8.out] at hx142_19)
      cases e142
      replace p142 := eq_true p142
      replace q142 := eq_true q142
      go_upto_region 10 with (fail)
      go_cut [70] (fun v70 wc => ∃ (kq : Nat) (x70_19 : Bool), v70 = .bool x70_19 ∧ zc (spec_l03Plan.j1 kq l1 x5_1 x70_19 a0_0 a0_1 a0_2 a0_3 = some r) ∧ zc (kq ≤ k1) ∧ zc (wc.heap[gb140]? = some (.cells #[.int .i8 a0_0, .int .i8 a0_1, .bool a0_2, .bool a0_3] 29 (0, 0))) ∧ zc (Below w.heap.size w wc))
      case first =>
       have H := HC20.out
       clear HC20
       by_cases c21 : (((rd_T54 l1 x5_1).f0.f0) == 0 && (((rd_T54 l1 x5_1).f0.f1) == 0 && (((rd_T54 l1 x5_1).f0.f2) == 0 && (((rd_T54 l1 x5_1).f0.f3) == 0 && (((rd_T54 l1 x5_1).f0.f4) == 0 && (((rd_T54 l1 x5_1).f0.f5) == 0 && (((rd_T54 l1 x5_1).f0.f6) == 0 && (((rd_T54 l1 x5_1).f0.f7) == 0 && (((rd_T54 l1 x5_1).f0.f8) == 0 && (((rd_T54 l1 x5_1).f0.f9) == 0 && (((rd_T54 l1 x5_1).f0.f10) == 0 && (((rd_T54 l1 x5_1).f0.f11) == 0 && (((rd_T54 l1 x5_1).f0.f12) == 0 && (((rd_T54 l1 x5_1).f0.f13) == 0)))))))))))))) = true
       ·rw [if_pos c21] at H
        have c21b0 : (((rd_T54 l1 x5_1).f0.f0) == 0 && (((rd_T54 l1 x5_1).f0.f1) == 0 && (((rd_T54 l1 x5_1).f0.f2) == 0 && (((rd_T54 l1 x5_1).f0.f3) == 0 && (((rd_T54 l1 x5_1).f0.f4) == 0 && (((rd_T54 l1 x5_1).f0.f5) == 0 && (((rd_T54 l1 x5_1).f0.f6) == 0 && (((rd_T54 l1 x5_1).f0.f7) == 0 && (((rd_T54 l1 x5_1).f0.f8) == 0 && (((rd_T54 l1 x5_1).f0.f9) == 0 && (((rd_T54 l1 x5_1).f0.f10) == 0 && (((rd_T54 l1 x5_1).f0.f11) == 0 && (((rd_T54 l1 x5_1).f0.f12) == 0 && (((rd_T54 l1 x5_1).f0.f13) == 0)))))))))))))) = true := c21
        (try (have c21b1 : decide (((rd_T54 l1 x5_1).f0.f0) = 0 && (((rd_T54 l1 x5_1).f0.f1) == 0 && (((rd_T54 l1 x5_1).f0.f2) == 0 && (((rd_T54 l1 x5_1).f0.f3) == 0 && (((rd_T54 l1 x5_1).f0.f4) == 0 && (((rd_T54 l1 x5_1).f0.f5) == 0 && (((rd_T54 l1 x5_1).f0.f6) == 0 && (((rd_T54 l1 x5_1).f0.f7) == 0 && (((rd_T54 l1 x5_1).f0.f8) == 0 && (((rd_T54 l1 x5_1).f0.f9) == 0 && (((rd_T54 l1 x5_1).f0.f10) == 0 && (((rd_T54 l1 x5_1).f0.f11) == 0 && (((rd_T54 l1 x5_1).f0.f12) == 0 && (((rd_T54 l1 x5_1).f0.f13) == 0)))))))))))))) = true := by simpa using c21))
        (try (have c21b2 : (((rd_T54 l1 x5_1).f0.f0) == 0 && (((rd_T54 l1 x5_1).f0.f1) == 0 && (((rd_T54 l1 x5_1).f0.f2) == 0 && (((rd_T54 l1 x5_1).f0.f3) == 0 && (((rd_T54 l1 x5_1).f0.f4) == 0 && (((rd_T54 l1 x5_1).f0.f5) == 0 && (((rd_T54 l1 x5_1).f0.f6) == 0 && (((rd_T54 l1 x5_1).f0.f7) == 0 && (((rd_T54 l1 x5_1).f0.f8) == 0 && (((rd_T54 l1 x5_1).f0.f9) == 0 && (((rd_T54 l1 x5_1).f0.f10) == 0 && (((rd_T54 l1 x5_1).f0.f11) == 0 && (((rd_T54 l1 x5_1).f0.f12) == 0 && (((rd_T54 l1 x5_1).f0.f13) == 0)))))))))))))) = true := by simpa using c21))
        clear c21
        (first | rw [c21b0] | (simp only [zm, zk]; rw [c21b0]) | skip)
        have H' := zc.mk H
        clear H
        try go_wp2
        have n0_ := zc.mk (zh BK140.out)
        have n1_ := zc.mk (zb HB.out)
        clear BK140
        clear HB
        have BK140 := n0_
        have HB := n1_
        clear n0_ n1_
        have p147 : 0 ≤ (x5_1 : Int) := of_decide_eq_true (by first | (with_reducible assumption) | assumption)
        have q147 : x5_1 < (l1.length : Int) := of_decide_eq_true (by first | (with_reducible assumption) | assumption)
        obtain ⟨ad147, e147, hx147_0, hx147_1, hx147_2, hx147_3, hx147_4, hx147_5, hx147_6, hx147_7, hx147_8, hx147_9, hx147_10, hx147_11, hx147_12, hx147_13, hx147_14, hx147_15, hx147_16, hx147_17, hx147_18, hx147_19, hw147_0, hw147_1, hw147_2, hw147_3, hw147_4, hw147_5, hw147_6, hw147_7, hw147_8, hw147_9, hw147_10, hw147_11, hw147_12, hw147_13, hw147_14, hw147_15, hw147_16, hw147_17, hw147_18, hw147_19⟩ := ab_T54 HB.out HR1.out x5_1 p147 q147
        (try rw [← Nbq8.out] at hx147_18)
        (try rw [← Nbq8.out] at hx147_19)
        obtain rfl : ad142 = ad147 := (by injection e147)
        replace p147 := eq_true p147
        replace q147 := eq_true q147
        refine start_ (n := 23) (S := fun w' => w'.cell? (ad142.add ((x5_1).toNat * 20)) = some (.int .i8 ((rd_T54 l1 x5_1).f0.f0)) ∧ w'.cell? ⟨(ad142.add ((x5_1).toNat * 20)).block, (ad142.add ((x5_1).toNat * 20)).off + 1, none⟩ = some (.int .i8 ((rd_T54 l1 x5_1).f0.f1)) ∧ w'.cell? ⟨(ad142.add ((x5_1).toNat * 20)).block, (ad142.add ((x5_1).toNat * 20)).off + 2, none⟩ = some (.int .i8 ((rd_T54 l1 x5_1).f0.f2)) ∧ w'.cell? ⟨(ad142.add ((x5_1).toNat * 20)).block, (ad142.add ((x5_1).toNat * 20)).off + 3, none⟩ = some (.int .i8 ((rd_T54 l1 x5_1).f0.f3)) ∧ w'.cell? ⟨(ad142.add ((x5_1).toNat * 20)).block, (ad142.add ((x5_1).toNat * 20)).off + 4, none⟩ = some (.int .i8 ((rd_T54 l1 x5_1).f0.f4)) ∧ w'.cell? ⟨(ad142.add ((x5_1).toNat * 20)).block, (ad142.add ((x5_1).toNat * 20)).off + 5, none⟩ = some (.int .i8 ((rd_T54 l1 x5_1).f0.f5)) ∧ w'.cell? ⟨(ad142.add ((x5_1).toNat * 20)).block, (ad142.add ((x5_1).toNat * 20)).off + 6, none⟩ = some (.int .i8 ((rd_T54 l1 x5_1).f0.f6)) ∧ w'.cell? ⟨(ad142.add ((x5_1).toNat * 20)).block, (ad142.add ((x5_1).toNat * 20)).off + 7, none⟩ = some (.int .i8 ((rd_T54 l1 x5_1).f0.f7)) ∧ w'.cell? ⟨(ad142.add ((x5_1).toNat * 20)).block, (ad142.add ((x5_1).toNat * 20)).off + 8, none⟩ = some (.int .i8 ((rd_T54 l1 x5_1).f0.f8)) ∧ w'.cell? ⟨(ad142.add ((x5_1).toNat * 20)).block, (ad142.add ((x5_1).toNat * 20)).off + 9, none⟩ = some (.int .i8 ((rd_T54 l1 x5_1).f0.f9)) ∧ w'.cell? ⟨(ad142.add ((x5_1).toNat * 20)).block, (ad142.add ((x5_1).toNat * 20)).off + 10, none⟩ = some (.int .i8 ((rd_T54 l1 x5_1).f0.f10)) ∧ w'.cell? ⟨(ad142.add ((x5_1).toNat * 20)).block, (ad142.add ((x5_1).toNat * 20)).off + 11, none⟩ = some (.int .i8 ((rd_T54 l1 x5_1).f0.f11)) ∧ w'.cell? ⟨(ad142.add ((x5_1).toNat * 20)).block, (ad142.add ((x5_1).toNat * 20)).off + 12, none⟩ = some (.int .i8 ((rd_T54 l1 x5_1).f0.f12)) ∧ w'.cell? ⟨(ad142.add ((x5_1).toNat * 20)).block, (ad142.add ((x5_1).toNat * 20)).off + 13, none⟩ = some (.int .i8 ((rd_T54 l1 x5_1).f0.f13)) ∧ w'.cell? ⟨(ad142.add ((x5_1).toNat * 20)).block, (ad142.add ((x5_1).toNat * 20)).off + 14, none⟩ = some (.int .i16 ((rd_T54 l1 x5_1).f1.f0)) ∧ w'.cell? ⟨(ad142.add ((x5_1).toNat * 20)).block, (ad142.add ((x5_1).toNat * 20)).off + 15, none⟩ = some (.int .i16 ((rd_T54 l1 x5_1).f1.f1)) ∧ w'.cell? ⟨(ad142.add ((x5_1).toNat * 20)).block, (ad142.add ((x5_1).toNat * 20)).off + 16, none⟩ = some (.int .i16 ((rd_T54 l1 x5_1).f1.f2)) ∧ w'.cell? ⟨(ad142.add ((x5_1).toNat * 20)).block, (ad142.add ((x5_1).toNat * 20)).off + 17, none⟩ = some (.int .i8 ((rd_T54 l1 x5_1).f2.f0)) ∧ w'.cell? ⟨(ad142.add ((x5_1).toNat * 20)).block, (ad142.add ((x5_1).toNat * 20)).off + 18, none⟩ = some (.bool ((rd_T54 l1 x5_1).f2.f1)) ∧ w'.cell? ⟨(ad142.add ((x5_1).toNat * 20)).block, (ad142.add ((x5_1).toNat * 20)).off + 19, none⟩ = some (.bool (false))) (ds := []) (fm 23 0) (by kernel_rfl) rfl rfl ⟨(bc HB.out hw147_0), (bc HB.out hw147_1), (bc HB.out hw147_2), (bc HB.out hw147_3), (bc HB.out hw147_4), (bc HB.out hw147_5), (bc HB.out hw147_6), (bc HB.out hw147_7), (bc HB.out hw147_8), (bc HB.out hw147_9), (bc HB.out hw147_10), (bc HB.out hw147_11), (bc HB.out hw147_12), (bc HB.out hw147_13), (bc HB.out hw147_14), (bc HB.out hw147_15), (bc HB.out hw147_16), (bc HB.out hw147_17), (by first | exact (bc HB.out hw147_18) | (have h_ := (bc HB.out hw147_18); rw [← Nbq8.out] at h_; exact h_)), (by first | exact (bc HB.out hw147_19) | (have h_ := (bc HB.out hw147_19); rw [← Nbq8.out] at h_; exact h_))⟩ (fun hHeld => ?_); refine zma spec_l03Plan.tab10 spec_l03Plan.bits10 (fun HT_ HW_ => ?_)
        generalize wr.drew = w22 at BK140 HB hx147_0 hx147_1 hx147_10 hx147_11 hx147_12 hx147_13 hx147_14 hx147_15 hx147_16 hx147_17 hx147_18 hx147_19 hx147_2 hx147_3 hx147_4 hx147_5 hx147_6 hx147_7 hx147_8 hx147_9 hHeld ⊢
        refine pv 0 48 (fm 23 1) rfl rfl (zj HT_.out (by kernel_rfl)) (fun _ _ _ h => h) (Or.inl ⟨by rfl, by intro w'; go_simp; with_reducible rfl⟩) (by simp only [Act.put, ea, eb, ec, zm, zk]; rfl) ?_
        refine pv 1 49 (fm 23 2) rfl rfl (zj HT_.out (by kernel_rfl)) (fun _ _ _ h => h) (Or.inl ⟨by rfl, by intro w'; go_simp; with_reducible rfl⟩) (by simp only [Act.put, ea, eb, ec, zm, zk]; rfl) ?_
        refine pv 2 50 (fm 23 3) rfl rfl (zj HT_.out (by kernel_rfl)) (fun _ _ _ h => h) (Or.inl ⟨by rfl, by intro w'; go_simp; with_reducible rfl⟩) (by simp only [Act.put, ea, eb, ec, zm, zk]; rfl) ?_
        refine pv 4 52 #[T, T, T, F, T, F, F, F, F, F, F, F, F, F, F, F, F, F, F, F, F, F, F] rfl rfl (zj HT_.out (by kernel_rfl)) (fun _ _ _ h => h) (Or.inl ⟨by rfl, by intro w'; go_simp; with_reducible rfl⟩) (by simp only [Act.put, ea, eb, ec, zm, zk]; rfl) ?_
        refine take_ (i := 3) (N := some 51) (v := ?_) (a' := ?_) (fm 23 5) rfl rfl (zca HT_.out HW_.out (by kernel_rfl)) (fun _ _ _ h => h) (Or.inl ⟨by rfl, ?_⟩) hHeld ?_ ?_
        rotate_left
        ·rintro w' ⟨s0, s1, s2, s3, s4, s5, s6, s7, s8, s9, s10, s11, s12, s13, s14, s15, s16, s17, s18, s19⟩
         go_simp
         with_reducible rfl
        rotate_left
        ·simp only [Act.put, List.setIfInBounds_toArray, List.set_cons_zero, List.set_cons_succ, zm, zk]
         rfl
        refine pv 5 53 (fm 23 6) rfl rfl (zj HT_.out (by kernel_rfl)) (fun _ _ _ h => h) (Or.inl ⟨by rfl, by intro w'; go_simp; with_reducible rfl⟩) (by simp only [Act.put, ea, eb, ec, zm, zk]; rfl) ?_
        refine pv 6 54 (fm 23 7) rfl rfl (zj HT_.out (by kernel_rfl)) (fun _ _ _ h => h) (Or.inl ⟨by rfl, by intro w'; go_simp; with_reducible rfl⟩) (by simp only [Act.put, ea, eb, ec, zm, zk]; rfl) ?_
        refine pu 7 55 (fm 23 8) rfl rfl (zj HT_.out (by kernel_rfl)) (fun _ _ _ h => h) (Or.inr ⟨by rfl, rfl⟩) (by simp only [Act.put, ea, eb, ec, zm, zk]; rfl) ?_
        refine pu 8 56 (fm 23 9) rfl rfl (zj HT_.out (by kernel_rfl)) (fun _ _ _ h => h) (Or.inr ⟨by rfl, rfl⟩) (by simp only [Act.put, ea, eb, ec, zm, zk]; rfl) ?_
        refine pu 9 57 (fm 23 10) rfl rfl (zj HT_.out (by kernel_rfl)) (fun _ _ _ h => h) (Or.inr ⟨by rfl, rfl⟩) (by simp only [Act.put, ea, eb, ec, zm, zk]; rfl) ?_
        refine pu 10 58 (fm 23 11) rfl rfl (zj HT_.out (by kernel_rfl)) (fun _ _ _ h => h) (Or.inr ⟨by rfl, rfl⟩) (by simp only [Act.put, ea, eb, ec, zm, zk]; rfl) ?_
        refine pu 11 59 (fm 23 12) rfl rfl (zj HT_.out (by kernel_rfl)) (fun _ _ _ h => h) (Or.inr ⟨by rfl, rfl⟩) (by simp only [Act.put, ea, eb, ec, zm, zk]; rfl) ?_
        refine pu 12 60 (fm 23 13) rfl rfl (zj HT_.out (by kernel_rfl)) (fun _ _ _ h => h) (Or.inr ⟨by rfl, rfl⟩) (by simp only [Act.put, ea, eb, ec, zm, zk]; rfl) ?_
        refine pu 13 61 (fm 23 14) rfl rfl (zj HT_.out (by kernel_rfl)) (fun _ _ _ h => h) (Or.inr ⟨by rfl, rfl⟩) (by simp only [Act.put, ea, eb, ec, zm, zk]; rfl) ?_
        refine pv 14 62 (fm 23 15) rfl rfl (zj HT_.out (by kernel_rfl)) (fun _ _ _ h => h) (Or.inl ⟨by rfl, by intro w'; go_simp; with_reducible rfl⟩) (by simp only [Act.put, ea, eb, ec, zm, zk]; rfl) ?_
        refine pv 15 63 (fm 23 16) rfl rfl (zj HT_.out (by kernel_rfl)) (fun _ _ _ h => h) (Or.inl ⟨by rfl, by intro w'; go_simp; with_reducible rfl⟩) (by simp only [Act.put, ea, eb, ec, zm, zk]; rfl) ?_
        refine pu 16 64 (fm 23 17) rfl rfl (zj HT_.out (by kernel_rfl)) (fun _ _ _ h => h) (Or.inr ⟨by rfl, rfl⟩) (by simp only [Act.put, ea, eb, ec, zm, zk]; rfl) ?_
        refine pu 17 65 (fm 23 18) rfl rfl (zj HT_.out (by kernel_rfl)) (fun _ _ _ h => h) (Or.inr ⟨by rfl, rfl⟩) (by simp only [Act.put, ea, eb, ec, zm, zk]; rfl) ?_
        refine pu 18 66 (fm 23 19) rfl rfl (zj HT_.out (by kernel_rfl)) (fun _ _ _ h => h) (Or.inr ⟨by rfl, rfl⟩) (by simp only [Act.put, ea, eb, ec, zm, zk]; rfl) ?_
        refine pu 19 67 (fm 23 20) rfl rfl (zj HT_.out (by kernel_rfl)) (fun _ _ _ h => h) (Or.inr ⟨by rfl, rfl⟩) (by simp only [Act.put, ea, eb, ec, zm, zk]; rfl) ?_
        refine pu 20 68 (fm 23 21) rfl rfl (zj HT_.out (by kernel_rfl)) (fun _ _ _ h => h) (Or.inr ⟨by rfl, rfl⟩) (by simp only [Act.put, ea, eb, ec, zm, zk]; rfl) ?_
        refine pu 21 69 (fm 23 22) rfl rfl (zj HT_.out (by kernel_rfl)) (fun _ _ _ h => h) (Or.inr ⟨by rfl, rfl⟩) (by simp only [Act.put, ea, eb, ec, zm, zk]; rfl) ?_
        refine pv 22 70 (fm 23 23) rfl rfl (zj HT_.out (by kernel_rfl)) (fun _ _ _ h => h) (Or.inl ⟨by rfl, by intro w'; go_simp; with_reducible rfl⟩) (by simp only [Act.put, ea, eb, ec, zm, zk]; rfl) ?_
        refine done_ (done_of HT_.out (by kernel_rfl)) ?_
        try go_wp2
        go_meet
        case rel => exact ⟨_, (true), (by first | rfl | (simp; done) | (simp [*]; done)), H', ⟨by have := HK1.out; first | omega | exact Nat.le_refl _⟩, ⟨by (with_reducible repeat (first | refine zf ?_ _ | refine zh ?_ | refine zg ?_ _)); exact BK140.out⟩, ⟨by repeat (first | (with_reducible first | exact HB.out | apply zd | apply za | apply zb | refine ze ?_ GE140.out) | exact HB.out)⟩⟩
       rw [if_neg c21] at H
       have c21b0 : (((rd_T54 l1 x5_1).f0.f0) == 0 && (((rd_T54 l1 x5_1).f0.f1) == 0 && (((rd_T54 l1 x5_1).f0.f2) == 0 && (((rd_T54 l1 x5_1).f0.f3) == 0 && (((rd_T54 l1 x5_1).f0.f4) == 0 && (((rd_T54 l1 x5_1).f0.f5) == 0 && (((rd_T54 l1 x5_1).f0.f6) == 0 && (((rd_T54 l1 x5_1).f0.f7) == 0 && (((rd_T54 l1 x5_1).f0.f8) == 0 && (((rd_T54 l1 x5_1).f0.f9) == 0 && (((rd_T54 l1 x5_1).f0.f10) == 0 && (((rd_T54 l1 x5_1).f0.f11) == 0 && (((rd_T54 l1 x5_1).f0.f12) == 0 && (((rd_T54 l1 x5_1).f0.f13) == 0)))))))))))))) = false := by simpa using c21
       (try (have c21b1 : decide (((rd_T54 l1 x5_1).f0.f0) = 0 && (((rd_T54 l1 x5_1).f0.f1) == 0 && (((rd_T54 l1 x5_1).f0.f2) == 0 && (((rd_T54 l1 x5_1).f0.f3) == 0 && (((rd_T54 l1 x5_1).f0.f4) == 0 && (((rd_T54 l1 x5_1).f0.f5) == 0 && (((rd_T54 l1 x5_1).f0.f6) == 0 && (((rd_T54 l1 x5_1).f0.f7) == 0 && (((rd_T54 l1 x5_1).f0.f8) == 0 && (((rd_T54 l1 x5_1).f0.f9) == 0 && (((rd_T54 l1 x5_1).f0.f10) == 0 && (((rd_T54 l1 x5_1).f0.f11) == 0 && (((rd_T54 l1 x5_1).f0.f12) == 0 && (((rd_T54 l1 x5_1).f0.f13) == 0)))))))))))))) = false := by simpa using c21))
       (try (have c21b2 : (((rd_T54 l1 x5_1).f0.f0) == 0 && (((rd_T54 l1 x5_1).f0.f1) == 0 && (((rd_T54 l1 x5_1).f0.f2) == 0 && (((rd_T54 l1 x5_1).f0.f3) == 0 && (((rd_T54 l1 x5_1).f0.f4) == 0 && (((rd_T54 l1 x5_1).f0.f5) == 0 && (((rd_T54 l1 x5_1).f0.f6) == 0 && (((rd_T54 l1 x5_1).f0.f7) == 0 && (((rd_T54 l1 x5_1).f0.f8) == 0 && (((rd_T54 l1 x5_1).f0.f9) == 0 && (((rd_T54 l1 x5_1).f0.f10) == 0 && (((rd_T54 l1 x5_1).f0.f11) == 0 && (((rd_T54 l1 x5_1).f0.f12) == 0 && (((rd_T54 l1 x5_1).f0.f13) == 0)))))))))))))) = false := by simpa using c21))
       (try (have c21b3 : ¬ (((rd_T54 l1 x5_1).f0.f0) = 0 && (((rd_T54 l1 x5_1).f0.f1) == 0 && (((rd_T54 l1 x5_1).f0.f2) == 0 && (((rd_T54 l1 x5_1).f0.f3) == 0 && (((rd_T54 l1 x5_1).f0.f4) == 0 && (((rd_T54 l1 x5_1).f0.f5) == 0 && (((rd_T54 l1 x5_1).f0.f6) == 0 && (((rd_T54 l1 x5_1).f0.f7) == 0 && (((rd_T54 l1 x5_1).f0.f8) == 0 && (((rd_T54 l1 x5_1).f0.f9) == 0 && (((rd_T54 l1 x5_1).f0.f10) == 0 && (((rd_T54 l1 x5_1).f0.f11) == 0 && (((rd_T54 l1 x5_1).f0.f12) == 0 && (((rd_T54 l1 x5_1).f0.f13) == 0)))))))))))))) := by simpa using c21))
       clear c21
       (first | rw [c21b0] | (simp only [zm, zk]; rw [c21b0]) | skip)
       replace H := Option.bind_eq_some_iff.mp H
       obtain ⟨t149, A230, H⟩ := H
       replace H : (if t149 = true then (spec_l03Plan.j1 k1 l1 x5_1 (!(((rd_T54 l1 x5_1).f2.f0) == 0) || (((rd_T54 l1 x5_1).f2.f1))) a0_0 a0_1 a0_2 a0_3) else (spec_l03Plan.j1 k1 l1 x5_1 true a0_0 a0_1 a0_2 a0_3)) = some r := H
       have A23 := zc.mk A230
       clear A230
       by_cases c24 : t149 = true
       ·subst c24
        have H1 : (spec_l03Plan.j1 k1 l1 x5_1 (!(((rd_T54 l1 x5_1).f2.f0) == 0) || (((rd_T54 l1 x5_1).f2.f1))) a0_0 a0_1 a0_2 a0_3) = some r := by rw [if_pos rfl] at H; exact H
        clear H
        have H := H1
        clear H1
        have H' := zc.mk H
        clear H
        try go_wp2
        have n0_ := zc.mk (zh BK140.out)
        have n1_ := zc.mk (zb HB.out)
        clear BK140
        clear HB
        have BK140 := n0_
        have HB := n1_
        clear n0_ n1_
        have p147 : 0 ≤ (x5_1 : Int) := of_decide_eq_true (by first | (with_reducible assumption) | assumption)
        have q147 : x5_1 < (l1.length : Int) := of_decide_eq_true (by first | (with_reducible assumption) | assumption)
        obtain ⟨ad147, e147, hx147_0, hx147_1, hx147_2, hx147_3, hx147_4, hx147_5, hx147_6, hx147_7, hx147_8, hx147_9, hx147_10, hx147_11, hx147_12, hx147_13, hx147_14, hx147_15, hx147_16, hx147_17, hx147_18, hx147_19, hw147_0, hw147_1, hw147_2, hw147_3, hw147_4, hw147_5, hw147_6, hw147_7, hw147_8, hw147_9, hw147_10, hw147_11, hw147_12, hw147_13, hw147_14, hw147_15, hw147_16, hw147_17, hw147_18, hw147_19⟩ := ab_T54 HB.out HR1.out x5_1 p147 q147
        (try rw [← Nbq8.out] at hx147_18)
        (try rw [← Nbq8.out] at hx147_19)
        obtain rfl : ad142 = ad147 := (by injection e147)
        replace p147 := eq_true p147
        replace q147 := eq_true q147
        have p148 : 0 ≤ (x5_1 : Int) := of_decide_eq_true (by first | (with_reducible assumption) | assumption)
        have q148 : x5_1 < (l1.length : Int) := of_decide_eq_true (by first | (with_reducible assumption) | assumption)
        obtain ⟨ad148, e148, hx148_0, hx148_1, hx148_2, hx148_3, hx148_4, hx148_5, hx148_6, hx148_7, hx148_8, hx148_9, hx148_10, hx148_11, hx148_12, hx148_13, hx148_14, hx148_15, hx148_16, hx148_17, hx148_18, hx148_19, hw148_0, hw148_1, hw148_2, hw148_3, hw148_4, hw148_5, hw148_6, hw148_7, hw148_8, hw148_9, hw148_10, hw148_11, hw148_12, hw148_13, hw148_14, hw148_15, hw148_16, hw148_17, hw148_18, hw148_19⟩ := ab_T54 HB.out HR1.out x5_1 p148 q148
        (try rw [← Nbq8.out] at hx148_18)
        (try rw [← Nbq8.out] at hx148_19)
        obtain rfl : ad142 = ad148 := (by injection e148)
        replace p148 := eq_true p148
        replace q148 := eq_true q148
        have p150 : 0 ≤ (x5_1 : Int) := of_decide_eq_true (by first | (with_reducible assumption) | assumption)
        have q150 : x5_1 < (l1.length : Int) := of_decide_eq_true (by first | (with_reducible assumption) | assumption)
        obtain ⟨ad150, e150, hx150_0, hx150_1, hx150_2, hx150_3, hx150_4, hx150_5, hx150_6, hx150_7, hx150_8, hx150_9, hx150_10, hx150_11, hx150_12, hx150_13, hx150_14, hx150_15, hx150_16, hx150_17, hx150_18, hx150_19, hw150_0, hw150_1, hw150_2, hw150_3, hw150_4, hw150_5, hw150_6, hw150_7, hw150_8, hw150_9, hw150_10, hw150_11, hw150_12, hw150_13, hw150_14, hw150_15, hw150_16, hw150_17, hw150_18, hw150_19⟩ := ab_T54 HB.out HR1.out x5_1 p150 q150
        (try rw [← Nbq8.out] at hx150_18)
        (try rw [← Nbq8.out] at hx150_19)
        obtain rfl : ad142 = ad150 := (by injection e150)
        replace p150 := eq_true p150
        replace q150 := eq_true q150
        refine start_ (n := 23) (S := fun w' => w'.cell? ⟨gb140, 0, none⟩ = some (.int .i8 a0_0) ∧ w'.cell? ⟨gb140, 1, none⟩ = some (.int .i8 a0_1) ∧ w'.cell? ⟨gb140, 2, none⟩ = some (.bool a0_2) ∧ w'.cell? ⟨gb140, 3, none⟩ = some (.bool a0_3) ∧ w'.cell? (ad142.add ((x5_1).toNat * 20)) = some (.int .i8 ((rd_T54 l1 x5_1).f0.f0)) ∧ w'.cell? ⟨(ad142.add ((x5_1).toNat * 20)).block, (ad142.add ((x5_1).toNat * 20)).off + 1, none⟩ = some (.int .i8 ((rd_T54 l1 x5_1).f0.f1)) ∧ w'.cell? ⟨(ad142.add ((x5_1).toNat * 20)).block, (ad142.add ((x5_1).toNat * 20)).off + 2, none⟩ = some (.int .i8 ((rd_T54 l1 x5_1).f0.f2)) ∧ w'.cell? ⟨(ad142.add ((x5_1).toNat * 20)).block, (ad142.add ((x5_1).toNat * 20)).off + 3, none⟩ = some (.int .i8 ((rd_T54 l1 x5_1).f0.f3)) ∧ w'.cell? ⟨(ad142.add ((x5_1).toNat * 20)).block, (ad142.add ((x5_1).toNat * 20)).off + 4, none⟩ = some (.int .i8 ((rd_T54 l1 x5_1).f0.f4)) ∧ w'.cell? ⟨(ad142.add ((x5_1).toNat * 20)).block, (ad142.add ((x5_1).toNat * 20)).off + 5, none⟩ = some (.int .i8 ((rd_T54 l1 x5_1).f0.f5)) ∧ w'.cell? ⟨(ad142.add ((x5_1).toNat * 20)).block, (ad142.add ((x5_1).toNat * 20)).off + 6, none⟩ = some (.int .i8 ((rd_T54 l1 x5_1).f0.f6)) ∧ w'.cell? ⟨(ad142.add ((x5_1).toNat * 20)).block, (ad142.add ((x5_1).toNat * 20)).off + 7, none⟩ = some (.int .i8 ((rd_T54 l1 x5_1).f0.f7)) ∧ w'.cell? ⟨(ad142.add ((x5_1).toNat * 20)).block, (ad142.add ((x5_1).toNat * 20)).off + 8, none⟩ = some (.int .i8 ((rd_T54 l1 x5_1).f0.f8)) ∧ w'.cell? ⟨(ad142.add ((x5_1).toNat * 20)).block, (ad142.add ((x5_1).toNat * 20)).off + 9, none⟩ = some (.int .i8 ((rd_T54 l1 x5_1).f0.f9)) ∧ w'.cell? ⟨(ad142.add ((x5_1).toNat * 20)).block, (ad142.add ((x5_1).toNat * 20)).off + 10, none⟩ = some (.int .i8 ((rd_T54 l1 x5_1).f0.f10)) ∧ w'.cell? ⟨(ad142.add ((x5_1).toNat * 20)).block, (ad142.add ((x5_1).toNat * 20)).off + 11, none⟩ = some (.int .i8 ((rd_T54 l1 x5_1).f0.f11)) ∧ w'.cell? ⟨(ad142.add ((x5_1).toNat * 20)).block, (ad142.add ((x5_1).toNat * 20)).off + 12, none⟩ = some (.int .i8 ((rd_T54 l1 x5_1).f0.f12)) ∧ w'.cell? ⟨(ad142.add ((x5_1).toNat * 20)).block, (ad142.add ((x5_1).toNat * 20)).off + 13, none⟩ = some (.int .i8 ((rd_T54 l1 x5_1).f0.f13)) ∧ w'.cell? ⟨(ad142.add ((x5_1).toNat * 20)).block, (ad142.add ((x5_1).toNat * 20)).off + 14, none⟩ = some (.int .i16 ((rd_T54 l1 x5_1).f1.f0)) ∧ w'.cell? ⟨(ad142.add ((x5_1).toNat * 20)).block, (ad142.add ((x5_1).toNat * 20)).off + 15, none⟩ = some (.int .i16 ((rd_T54 l1 x5_1).f1.f1)) ∧ w'.cell? ⟨(ad142.add ((x5_1).toNat * 20)).block, (ad142.add ((x5_1).toNat * 20)).off + 16, none⟩ = some (.int .i16 ((rd_T54 l1 x5_1).f1.f2)) ∧ w'.cell? ⟨(ad142.add ((x5_1).toNat * 20)).block, (ad142.add ((x5_1).toNat * 20)).off + 17, none⟩ = some (.int .i8 ((rd_T54 l1 x5_1).f2.f0)) ∧ w'.cell? ⟨(ad142.add ((x5_1).toNat * 20)).block, (ad142.add ((x5_1).toNat * 20)).off + 18, none⟩ = some (.bool ((rd_T54 l1 x5_1).f2.f1)) ∧ w'.cell? ⟨(ad142.add ((x5_1).toNat * 20)).block, (ad142.add ((x5_1).toNat * 20)).off + 19, none⟩ = some (.bool (false)) ∧ w'.cell? (ad142.add ((x5_1).toNat * 20)) = some (.int .i8 ((rd_T54 l1 x5_1).f0.f0)) ∧ w'.cell? ⟨(ad142.add ((x5_1).toNat * 20)).block, (ad142.add ((x5_1).toNat * 20)).off + 1, none⟩ = some (.int .i8 ((rd_T54 l1 x5_1).f0.f1)) ∧ w'.cell? ⟨(ad142.add ((x5_1).toNat * 20)).block, (ad142.add ((x5_1).toNat * 20)).off + 2, none⟩ = some (.int .i8 ((rd_T54 l1 x5_1).f0.f2)) ∧ w'.cell? ⟨(ad142.add ((x5_1).toNat * 20)).block, (ad142.add ((x5_1).toNat * 20)).off + 3, none⟩ = some (.int .i8 ((rd_T54 l1 x5_1).f0.f3)) ∧ w'.cell? ⟨(ad142.add ((x5_1).toNat * 20)).block, (ad142.add ((x5_1).toNat * 20)).off + 4, none⟩ = some (.int .i8 ((rd_T54 l1 x5_1).f0.f4)) ∧ w'.cell? ⟨(ad142.add ((x5_1).toNat * 20)).block, (ad142.add ((x5_1).toNat * 20)).off + 5, none⟩ = some (.int .i8 ((rd_T54 l1 x5_1).f0.f5)) ∧ w'.cell? ⟨(ad142.add ((x5_1).toNat * 20)).block, (ad142.add ((x5_1).toNat * 20)).off + 6, none⟩ = some (.int .i8 ((rd_T54 l1 x5_1).f0.f6)) ∧ w'.cell? ⟨(ad142.add ((x5_1).toNat * 20)).block, (ad142.add ((x5_1).toNat * 20)).off + 7, none⟩ = some (.int .i8 ((rd_T54 l1 x5_1).f0.f7)) ∧ w'.cell? ⟨(ad142.add ((x5_1).toNat * 20)).block, (ad142.add ((x5_1).toNat * 20)).off + 8, none⟩ = some (.int .i8 ((rd_T54 l1 x5_1).f0.f8)) ∧ w'.cell? ⟨(ad142.add ((x5_1).toNat * 20)).block, (ad142.add ((x5_1).toNat * 20)).off + 9, none⟩ = some (.int .i8 ((rd_T54 l1 x5_1).f0.f9)) ∧ w'.cell? ⟨(ad142.add ((x5_1).toNat * 20)).block, (ad142.add ((x5_1).toNat * 20)).off + 10, none⟩ = some (.int .i8 ((rd_T54 l1 x5_1).f0.f10)) ∧ w'.cell? ⟨(ad142.add ((x5_1).toNat * 20)).block, (ad142.add ((x5_1).toNat * 20)).off + 11, none⟩ = some (.int .i8 ((rd_T54 l1 x5_1).f0.f11)) ∧ w'.cell? ⟨(ad142.add ((x5_1).toNat * 20)).block, (ad142.add ((x5_1).toNat * 20)).off + 12, none⟩ = some (.int .i8 ((rd_T54 l1 x5_1).f0.f12)) ∧ w'.cell? ⟨(ad142.add ((x5_1).toNat * 20)).block, (ad142.add ((x5_1).toNat * 20)).off + 13, none⟩ = some (.int .i8 ((rd_T54 l1 x5_1).f0.f13)) ∧ w'.cell? ⟨(ad142.add ((x5_1).toNat * 20)).block, (ad142.add ((x5_1).toNat * 20)).off + 14, none⟩ = some (.int .i16 ((rd_T54 l1 x5_1).f1.f0)) ∧ w'.cell? ⟨(ad142.add ((x5_1).toNat * 20)).block, (ad142.add ((x5_1).toNat * 20)).off + 15, none⟩ = some (.int .i16 ((rd_T54 l1 x5_1).f1.f1)) ∧ w'.cell? ⟨(ad142.add ((x5_1).toNat * 20)).block, (ad142.add ((x5_1).toNat * 20)).off + 16, none⟩ = some (.int .i16 ((rd_T54 l1 x5_1).f1.f2)) ∧ w'.cell? ⟨(ad142.add ((x5_1).toNat * 20)).block, (ad142.add ((x5_1).toNat * 20)).off + 17, none⟩ = some (.int .i8 ((rd_T54 l1 x5_1).f2.f0)) ∧ w'.cell? ⟨(ad142.add ((x5_1).toNat * 20)).block, (ad142.add ((x5_1).toNat * 20)).off + 18, none⟩ = some (.bool ((rd_T54 l1 x5_1).f2.f1)) ∧ w'.cell? ⟨(ad142.add ((x5_1).toNat * 20)).block, (ad142.add ((x5_1).toNat * 20)).off + 19, none⟩ = some (.bool (false)) ∧ w'.cell? (ad142.add ((x5_1).toNat * 20)) = some (.int .i8 ((rd_T54 l1 x5_1).f0.f0)) ∧ w'.cell? ⟨(ad142.add ((x5_1).toNat * 20)).block, (ad142.add ((x5_1).toNat * 20)).off + 1, none⟩ = some (.int .i8 ((rd_T54 l1 x5_1).f0.f1)) ∧ w'.cell? ⟨(ad142.add ((x5_1).toNat * 20)).block, (ad142.add ((x5_1).toNat * 20)).off + 2, none⟩ = some (.int .i8 ((rd_T54 l1 x5_1).f0.f2)) ∧ w'.cell? ⟨(ad142.add ((x5_1).toNat * 20)).block, (ad142.add ((x5_1).toNat * 20)).off + 3, none⟩ = some (.int .i8 ((rd_T54 l1 x5_1).f0.f3)) ∧ w'.cell? ⟨(ad142.add ((x5_1).toNat * 20)).block, (ad142.add ((x5_1).toNat * 20)).off + 4, none⟩ = some (.int .i8 ((rd_T54 l1 x5_1).f0.f4)) ∧ w'.cell? ⟨(ad142.add ((x5_1).toNat * 20)).block, (ad142.add ((x5_1).toNat * 20)).off + 5, none⟩ = some (.int .i8 ((rd_T54 l1 x5_1).f0.f5)) ∧ w'.cell? ⟨(ad142.add ((x5_1).toNat * 20)).block, (ad142.add ((x5_1).toNat * 20)).off + 6, none⟩ = some (.int .i8 ((rd_T54 l1 x5_1).f0.f6)) ∧ w'.cell? ⟨(ad142.add ((x5_1).toNat * 20)).block, (ad142.add ((x5_1).toNat * 20)).off + 7, none⟩ = some (.int .i8 ((rd_T54 l1 x5_1).f0.f7)) ∧ w'.cell? ⟨(ad142.add ((x5_1).toNat * 20)).block, (ad142.add ((x5_1).toNat * 20)).off + 8, none⟩ = some (.int .i8 ((rd_T54 l1 x5_1).f0.f8)) ∧ w'.cell? ⟨(ad142.add ((x5_1).toNat * 20)).block, (ad142.add ((x5_1).toNat * 20)).off + 9, none⟩ = some (.int .i8 ((rd_T54 l1 x5_1).f0.f9)) ∧ w'.cell? ⟨(ad142.add ((x5_1).toNat * 20)).block, (ad142.add ((x5_1).toNat * 20)).off + 10, none⟩ = some (.int .i8 ((rd_T54 l1 x5_1).f0.f10)) ∧ w'.cell? ⟨(ad142.add ((x5_1).toNat * 20)).block, (ad142.add ((x5_1).toNat * 20)).off + 11, none⟩ = some (.int .i8 ((rd_T54 l1 x5_1).f0.f11)) ∧ w'.cell? ⟨(ad142.add ((x5_1).toNat * 20)).block, (ad142.add ((x5_1).toNat * 20)).off + 12, none⟩ = some (.int .i8 ((rd_T54 l1 x5_1).f0.f12)) ∧ w'.cell? ⟨(ad142.add ((x5_1).toNat * 20)).block, (ad142.add ((x5_1).toNat * 20)).off + 13, none⟩ = some (.int .i8 ((rd_T54 l1 x5_1).f0.f13)) ∧ w'.cell? ⟨(ad142.add ((x5_1).toNat * 20)).block, (ad142.add ((x5_1).toNat * 20)).off + 14, none⟩ = some (.int .i16 ((rd_T54 l1 x5_1).f1.f0)) ∧ w'.cell? ⟨(ad142.add ((x5_1).toNat * 20)).block, (ad142.add ((x5_1).toNat * 20)).off + 15, none⟩ = some (.int .i16 ((rd_T54 l1 x5_1).f1.f1)) ∧ w'.cell? ⟨(ad142.add ((x5_1).toNat * 20)).block, (ad142.add ((x5_1).toNat * 20)).off + 16, none⟩ = some (.int .i16 ((rd_T54 l1 x5_1).f1.f2)) ∧ w'.cell? ⟨(ad142.add ((x5_1).toNat * 20)).block, (ad142.add ((x5_1).toNat * 20)).off + 17, none⟩ = some (.int .i8 ((rd_T54 l1 x5_1).f2.f0)) ∧ w'.cell? ⟨(ad142.add ((x5_1).toNat * 20)).block, (ad142.add ((x5_1).toNat * 20)).off + 18, none⟩ = some (.bool ((rd_T54 l1 x5_1).f2.f1)) ∧ w'.cell? ⟨(ad142.add ((x5_1).toNat * 20)).block, (ad142.add ((x5_1).toNat * 20)).off + 19, none⟩ = some (.bool (false))) (ds := []) (fm 23 0) (by kernel_rfl) rfl rfl ⟨(zr BK140.out 0).trans rfl, (zr BK140.out 1).trans rfl, (zr BK140.out 2).trans rfl, (zr BK140.out 3).trans rfl, (bc HB.out hw147_0), (bc HB.out hw147_1), (bc HB.out hw147_2), (bc HB.out hw147_3), (bc HB.out hw147_4), (bc HB.out hw147_5), (bc HB.out hw147_6), (bc HB.out hw147_7), (bc HB.out hw147_8), (bc HB.out hw147_9), (bc HB.out hw147_10), (bc HB.out hw147_11), (bc HB.out hw147_12), (bc HB.out hw147_13), (bc HB.out hw147_14), (bc HB.out hw147_15), (bc HB.out hw147_16), (bc HB.out hw147_17), (by first | exact (bc HB.out hw147_18) | (have h_ := (bc HB.out hw147_18); rw [← Nbq8.out] at h_; exact h_)), (by first | exact (bc HB.out hw147_19) | (have h_ := (bc HB.out hw147_19); rw [← Nbq8.out] at h_; exact h_)), (bc HB.out hw148_0), (bc HB.out hw148_1), (bc HB.out hw148_2), (bc HB.out hw148_3), (bc HB.out hw148_4), (bc HB.out hw148_5), (bc HB.out hw148_6), (bc HB.out hw148_7), (bc HB.out hw148_8), (bc HB.out hw148_9), (bc HB.out hw148_10), (bc HB.out hw148_11), (bc HB.out hw148_12), (bc HB.out hw148_13), (bc HB.out hw148_14), (bc HB.out hw148_15), (bc HB.out hw148_16), (bc HB.out hw148_17), (by first | exact (bc HB.out hw148_18) | (have h_ := (bc HB.out hw148_18); rw [← Nbq8.out] at h_; exact h_)), (by first | exact (bc HB.out hw148_19) | (have h_ := (bc HB.out hw148_19); rw [← Nbq8.out] at h_; exact h_)), (bc HB.out hw150_0), (bc HB.out hw150_1), (bc HB.out hw150_2), (bc HB.out hw150_3), (bc HB.out hw150_4), (bc HB.out hw150_5), (bc HB.out hw150_6), (bc HB.out hw150_7), (bc HB.out hw150_8), (bc HB.out hw150_9), (bc HB.out hw150_10), (bc HB.out hw150_11), (bc HB.out hw150_12), (bc HB.out hw150_13), (bc HB.out hw150_14), (bc HB.out hw150_15), (bc HB.out hw150_16), (bc HB.out hw150_17), (by first | exact (bc HB.out hw150_18) | (have h_ := (bc HB.out hw150_18); rw [← Nbq8.out] at h_; exact h_)), (by first | exact (bc HB.out hw150_19) | (have h_ := (bc HB.out hw150_19); rw [← Nbq8.out] at h_; exact h_))⟩ (fun hHeld => ?_); refine zma spec_l03Plan.tab10 spec_l03Plan.bits10 (fun HT_ HW_ => ?_)
        generalize wr.drew = w25 at BK140 HB hx147_0 hx147_1 hx147_10 hx147_11 hx147_12 hx147_13 hx147_14 hx147_15 hx147_16 hx147_17 hx147_18 hx147_19 hx147_2 hx147_3 hx147_4 hx147_5 hx147_6 hx147_7 hx147_8 hx147_9 hx148_0 hx148_1 hx148_10 hx148_11 hx148_12 hx148_13 hx148_14 hx148_15 hx148_16 hx148_17 hx148_18 hx148_19 hx148_2 hx148_3 hx148_4 hx148_5 hx148_6 hx148_7 hx148_8 hx148_9 hx150_0 hx150_1 hx150_10 hx150_11 hx150_12 hx150_13 hx150_14 hx150_15 hx150_16 hx150_17 hx150_18 hx150_19 hx150_2 hx150_3 hx150_4 hx150_5 hx150_6 hx150_7 hx150_8 hx150_9 hHeld ⊢
        refine pv 0 48 (fm 23 1) rfl rfl (zj HT_.out (by kernel_rfl)) (fun _ _ _ h => h) (Or.inl ⟨by rfl, by intro w'; go_simp; with_reducible rfl⟩) (by simp only [Act.put, ea, eb, ec, zm, zk]; rfl) ?_
        refine pv 1 49 (fm 23 2) rfl rfl (zj HT_.out (by kernel_rfl)) (fun _ _ _ h => h) (Or.inl ⟨by rfl, by intro w'; go_simp; with_reducible rfl⟩) (by simp only [Act.put, ea, eb, ec, zm, zk]; rfl) ?_
        refine pv 2 50 (fm 23 3) rfl rfl (zj HT_.out (by kernel_rfl)) (fun _ _ _ h => h) (Or.inl ⟨by rfl, by intro w'; go_simp; with_reducible rfl⟩) (by simp only [Act.put, ea, eb, ec, zm, zk]; rfl) ?_
        refine pv 4 52 #[T, T, T, F, T, F, F, F, F, F, F, F, F, F, F, F, F, F, F, F, F, F, F] rfl rfl (zj HT_.out (by kernel_rfl)) (fun _ _ _ h => h) (Or.inl ⟨by rfl, by intro w'; go_simp; with_reducible rfl⟩) (by simp only [Act.put, ea, eb, ec, zm, zk]; rfl) ?_
        refine take_ (i := 3) (N := some 51) (v := ?_) (a' := ?_) (fm 23 5) rfl rfl (zca HT_.out HW_.out (by kernel_rfl)) (fun _ _ _ h => h) (Or.inl ⟨by rfl, ?_⟩) hHeld ?_ ?_
        rotate_left
        ·rintro w' ⟨s0, s1, s2, s3, s4, s5, s6, s7, s8, s9, s10, s11, s12, s13, s14, s15, s16, s17, s18, s19, s20, s21, s22, s23, s24, s25, s26, s27, s28, s29, s30, s31, s32, s33, s34, s35, s36, s37, s38, s39, s40, s41, s42, s43, s44, s45, s46, s47, s48, s49, s50, s51, s52, s53, s54, s55, s56, s57, s58, s59, s60, s61, s62, s63⟩
         go_simp
         with_reducible rfl
        rotate_left
        ·simp only [Act.put, List.setIfInBounds_toArray, List.set_cons_zero, List.set_cons_succ, zm, zk]
         rfl
        refine pv 5 53 (fm 23 6) rfl rfl (zj HT_.out (by kernel_rfl)) (fun _ _ _ h => h) (Or.inl ⟨by rfl, by intro w'; go_simp; with_reducible rfl⟩) (by simp only [Act.put, ea, eb, ec, zm, zk]; rfl) ?_
        refine pv 6 54 (fm 23 7) rfl rfl (zj HT_.out (by kernel_rfl)) (fun _ _ _ h => h) (Or.inl ⟨by rfl, by intro w'; go_simp; with_reducible rfl⟩) (by simp only [Act.put, ea, eb, ec, zm, zk]; rfl) ?_
        refine pv 8 56 #[T, T, T, T, T, T, T, F, T, F, F, F, F, F, F, F, F, F, F, F, F, F, F] rfl rfl (zj HT_.out (by kernel_rfl)) (fun _ _ _ h => h) (Or.inl ⟨by rfl, by intro w'; go_simp; with_reducible rfl⟩) (by simp only [Act.put, ea, eb, ec, zm, zk]; rfl) ?_
        refine pv 9 57 #[T, T, T, T, T, T, T, F, T, T, F, F, F, F, F, F, F, F, F, F, F, F, F] rfl rfl (zj HT_.out (by kernel_rfl)) (fun _ _ _ h => h) (Or.inl ⟨by rfl, by intro w'; go_simp; with_reducible rfl⟩) (by simp only [Act.put, ea, eb, ec, zm, zk]; rfl) ?_
        refine pv 10 58 #[T, T, T, T, T, T, T, F, T, T, T, F, F, F, F, F, F, F, F, F, F, F, F] rfl rfl (zj HT_.out (by kernel_rfl)) (fun _ _ _ h => h) (Or.inl ⟨by rfl, by intro w'; go_simp; with_reducible rfl⟩) (by simp only [Act.put, ea, eb, ec, zm, zk]; rfl) ?_
        refine take_ (i := 7) (N := some 55) (v := ?_) (a' := ?_) (fm 23 11) rfl rfl (zca HT_.out HW_.out (by kernel_rfl)) (fun _ _ _ h => h) (Or.inl ⟨by rfl, ?_⟩) hHeld ?_ ?_
        rotate_left
        ·rintro w' ⟨s0, s1, s2, s3, s4, s5, s6, s7, s8, s9, s10, s11, s12, s13, s14, s15, s16, s17, s18, s19, s20, s21, s22, s23, s24, s25, s26, s27, s28, s29, s30, s31, s32, s33, s34, s35, s36, s37, s38, s39, s40, s41, s42, s43, s44, s45, s46, s47, s48, s49, s50, s51, s52, s53, s54, s55, s56, s57, s58, s59, s60, s61, s62, s63⟩
         go_simp
         with_reducible rfl
        rotate_left
        ·simp only [Act.put, List.setIfInBounds_toArray, List.set_cons_zero, List.set_cons_succ, zm, zk]
         rfl
        refine take_ (i := 11) (N := some 59) (v := ?_) (a' := ?_) (fm 23 12) rfl rfl (zca HT_.out HW_.out (by kernel_rfl)) (fun _ _ _ h => h) (Or.inl ⟨by rfl, ?_⟩) hHeld ?_ ?_
        rotate_left
        ·rintro w' ⟨s0, s1, s2, s3, s4, s5, s6, s7, s8, s9, s10, s11, s12, s13, s14, s15, s16, s17, s18, s19, s20, s21, s22, s23, s24, s25, s26, s27, s28, s29, s30, s31, s32, s33, s34, s35, s36, s37, s38, s39, s40, s41, s42, s43, s44, s45, s46, s47, s48, s49, s50, s51, s52, s53, s54, s55, s56, s57, s58, s59, s60, s61, s62, s63⟩
         go_simp
         with_reducible rfl
        rotate_left
        ·simp only [Act.put, List.setIfInBounds_toArray, List.set_cons_zero, List.set_cons_succ, zm, zk]
         rfl
        refine one_ (i := 12) (N := some 60) (fm 23 13) rfl rfl (one_of HT_.out (by kernel_rfl)) (by decide) (fun K hK => ?_)
        refine goes_ Try.func55 (by kernel_rfl) rfl #[.agg #[.int .i8 a0_0, .int .i8 a0_1, .bool a0_2, .bool a0_3], .agg #[.int .i8 ((rd_T54 l1 x5_1).f0.f0), .int .i8 ((rd_T54 l1 x5_1).f0.f1), .int .i8 ((rd_T54 l1 x5_1).f0.f2), .int .i8 ((rd_T54 l1 x5_1).f0.f3), .int .i8 ((rd_T54 l1 x5_1).f0.f4), .int .i8 ((rd_T54 l1 x5_1).f0.f5), .int .i8 ((rd_T54 l1 x5_1).f0.f6), .int .i8 ((rd_T54 l1 x5_1).f0.f7), .int .i8 ((rd_T54 l1 x5_1).f0.f8), .int .i8 ((rd_T54 l1 x5_1).f0.f9), .int .i8 ((rd_T54 l1 x5_1).f0.f10), .int .i8 ((rd_T54 l1 x5_1).f0.f11), .int .i8 ((rd_T54 l1 x5_1).f0.f12), .int .i8 ((rd_T54 l1 x5_1).f0.f13)]] (by rfl) rfl rfl (by (try simp only [List.map_toArray, List.map_cons, List.map_nil]); first | done | rfl | (simp only [List.length_drop, List.length_take]; rfl)) ?_
        with_reducible refine (spec_l03Weighing.calls k1 a0_0 a0_1 a0_2 a0_3 ((rd_T54 l1 x5_1).f0.f0) ((rd_T54 l1 x5_1).f0.f1) ((rd_T54 l1 x5_1).f0.f2) ((rd_T54 l1 x5_1).f0.f3) ((rd_T54 l1 x5_1).f0.f4) ((rd_T54 l1 x5_1).f0.f5) ((rd_T54 l1 x5_1).f0.f6) ((rd_T54 l1 x5_1).f0.f7) ((rd_T54 l1 x5_1).f0.f8) ((rd_T54 l1 x5_1).f0.f9) ((rd_T54 l1 x5_1).f0.f10) ((rd_T54 l1 x5_1).f0.f11) ((rd_T54 l1 x5_1).f0.f12) ((rd_T54 l1 x5_1).f0.f13) true _ A23.out).mono ?_
        rintro e w26 ⟨rfl, hb⟩
        refine ⟨_, rfl, ?_⟩
        have n0_ := zc.mk (zi (by (with_reducible repeat (first | refine zf ?_ _ | refine zh ?_ | refine zg ?_ _)); exact BK140.out) hb)
        have n1_ := zc.mk (zp (by repeat (first | (with_reducible first | exact HB.out | apply zd | apply za | apply zb | refine ze ?_ GE140.out) | exact HB.out)) hb)
        clear BK140
        clear HB
        have BK140 := n0_
        have HB := n1_
        clear n0_ n1_
        (try clear hb)
        (try clear hb2)
        (try clear hk)
        (try clear hi)
        refine hK.out _ _ ⟨(zr BK140.out 0).trans rfl, (zr BK140.out 1).trans rfl, (zr BK140.out 2).trans rfl, (zr BK140.out 3).trans rfl, (bc HB.out hw147_0), (bc HB.out hw147_1), (bc HB.out hw147_2), (bc HB.out hw147_3), (bc HB.out hw147_4), (bc HB.out hw147_5), (bc HB.out hw147_6), (bc HB.out hw147_7), (bc HB.out hw147_8), (bc HB.out hw147_9), (bc HB.out hw147_10), (bc HB.out hw147_11), (bc HB.out hw147_12), (bc HB.out hw147_13), (bc HB.out hw147_14), (bc HB.out hw147_15), (bc HB.out hw147_16), (bc HB.out hw147_17), (by first | exact (bc HB.out hw147_18) | (have h_ := (bc HB.out hw147_18); rw [← Nbq8.out] at h_; exact h_)), (by first | exact (bc HB.out hw147_19) | (have h_ := (bc HB.out hw147_19); rw [← Nbq8.out] at h_; exact h_)), (bc HB.out hw148_0), (bc HB.out hw148_1), (bc HB.out hw148_2), (bc HB.out hw148_3), (bc HB.out hw148_4), (bc HB.out hw148_5), (bc HB.out hw148_6), (bc HB.out hw148_7), (bc HB.out hw148_8), (bc HB.out hw148_9), (bc HB.out hw148_10), (bc HB.out hw148_11), (bc HB.out hw148_12), (bc HB.out hw148_13), (bc HB.out hw148_14), (bc HB.out hw148_15), (bc HB.out hw148_16), (bc HB.out hw148_17), (by first | exact (bc HB.out hw148_18) | (have h_ := (bc HB.out hw148_18); rw [← Nbq8.out] at h_; exact h_)), (by first | exact (bc HB.out hw148_19) | (have h_ := (bc HB.out hw148_19); rw [← Nbq8.out] at h_; exact h_)), (bc HB.out hw150_0), (bc HB.out hw150_1), (bc HB.out hw150_2), (bc HB.out hw150_3), (bc HB.out hw150_4), (bc HB.out hw150_5), (bc HB.out hw150_6), (bc HB.out hw150_7), (bc HB.out hw150_8), (bc HB.out hw150_9), (bc HB.out hw150_10), (bc HB.out hw150_11), (bc HB.out hw150_12), (bc HB.out hw150_13), (bc HB.out hw150_14), (bc HB.out hw150_15), (bc HB.out hw150_16), (bc HB.out hw150_17), (by first | exact (bc HB.out hw150_18) | (have h_ := (bc HB.out hw150_18); rw [← Nbq8.out] at h_; exact h_)), (by first | exact (bc HB.out hw150_19) | (have h_ := (bc HB.out hw150_19); rw [← Nbq8.out] at h_; exact h_))⟩ (fun hHeld => ?_)
        clear hK K
        refine norm_ (a' := ?_) ?_ ?_
        rotate_left
        ·show Act.put _ (some 60) _ = _
         simp only [Act.put, List.setIfInBounds_toArray, List.set_cons_zero, List.set_cons_succ, zm, zk]
         rfl
        refine pv 13 61 (fm 23 14) rfl rfl (zj HT_.out (by kernel_rfl)) (fun _ _ _ h => h) (Or.inl ⟨by rfl, by intro w'; go_simp; with_reducible rfl⟩) (by simp only [Act.put, ea, eb, ec, zm, zk]; rfl) ?_
        refine pv 14 62 (fm 23 15) rfl rfl (zj HT_.out (by kernel_rfl)) (fun _ _ _ h => h) (Or.inl ⟨by rfl, by intro w'; go_simp; with_reducible rfl⟩) (by simp only [Act.put, ea, eb, ec, zm, zk]; rfl) ?_
        refine pv 15 63 (fm 23 16) rfl rfl (zj HT_.out (by kernel_rfl)) (fun _ _ _ h => h) (Or.inl ⟨by rfl, by intro w'; go_simp; with_reducible rfl⟩) (by simp only [Act.put, ea, eb, ec, zm, zk]; rfl) ?_
        refine pv 16 64 (fm 23 17) rfl rfl (zj HT_.out (by kernel_rfl)) (fun _ _ _ h => h) (Or.inl ⟨by rfl, by intro w'; go_simp; with_reducible rfl⟩) (by simp only [Act.put, ea, eb, ec, zm, zk]; rfl) ?_
        refine pv 17 65 (fm 23 18) rfl rfl (zj HT_.out (by kernel_rfl)) (fun _ _ _ h => h) (Or.inl ⟨by rfl, by intro w'; go_simp; with_reducible rfl⟩) (by simp only [Act.put, ea, eb, ec, zm, zk]; rfl) ?_
        refine pv 18 66 (fm 23 19) rfl rfl (zj HT_.out (by kernel_rfl)) (fun _ _ _ h => h) (Or.inl ⟨by rfl, by intro w'; go_simp; with_reducible rfl⟩) (by simp only [Act.put, ea, eb, ec, zm, zk]; rfl) ?_
        refine pv 20 68 #[T, T, T, T, T, T, T, T, T, T, T, T, T, T, T, T, T, T, T, F, T, F, F] rfl rfl (zj HT_.out (by kernel_rfl)) (fun _ _ _ h => h) (Or.inl ⟨by rfl, by intro w'; go_simp; with_reducible rfl⟩) (by simp only [Act.put, ea, eb, ec, zm, zk]; rfl) ?_
        refine take_ (i := 19) (N := some 67) (v := ?_) (a' := ?_) (fm 23 21) rfl rfl (zca HT_.out HW_.out (by kernel_rfl)) (fun _ _ _ h => h) (Or.inl ⟨by rfl, ?_⟩) hHeld ?_ ?_
        rotate_left
        ·rintro w' ⟨s0, s1, s2, s3, s4, s5, s6, s7, s8, s9, s10, s11, s12, s13, s14, s15, s16, s17, s18, s19, s20, s21, s22, s23, s24, s25, s26, s27, s28, s29, s30, s31, s32, s33, s34, s35, s36, s37, s38, s39, s40, s41, s42, s43, s44, s45, s46, s47, s48, s49, s50, s51, s52, s53, s54, s55, s56, s57, s58, s59, s60, s61, s62, s63⟩
         go_simp
         with_reducible rfl
        rotate_left
        ·simp only [Act.put, List.setIfInBounds_toArray, List.set_cons_zero, List.set_cons_succ, zm, zk]
         rfl
        refine pv 21 69 (fm 23 22) rfl rfl (zj HT_.out (by kernel_rfl)) (fun _ _ _ h => h) (Or.inl ⟨by rfl, by intro w'; go_simp; with_reducible rfl⟩) (by simp only [Act.put, ea, eb, ec, zm, zk]; rfl) ?_
        refine pv 22 70 (fm 23 23) rfl rfl (zj HT_.out (by kernel_rfl)) (fun _ _ _ h => h) (Or.inl ⟨by rfl, by intro w'; go_simp; with_reducible rfl⟩) (by simp only [Act.put, ea, eb, ec, zm, zk]; rfl) ?_
        refine done_ (done_of HT_.out (by kernel_rfl)) ?_
        try go_wp2
        go_meet
        case rel => exact ⟨_, ((!(((rd_T54 l1 x5_1).f2.f0) == 0) || (((rd_T54 l1 x5_1).f2.f1)))), (by first | rfl | (simp; done) | (simp [*]; done)), H', ⟨by have := HK1.out; first | omega | exact Nat.le_refl _⟩, ⟨by (with_reducible repeat (first | refine zf ?_ _ | refine zh ?_ | refine zg ?_ _)); exact BK140.out⟩, ⟨by repeat (first | (with_reducible first | exact HB.out | apply zd | apply za | apply zb | refine ze ?_ GE140.out) | exact HB.out)⟩⟩
       replace c24 := Bool.eq_false_iff.mpr c24
       subst c24
       have H1 : (spec_l03Plan.j1 k1 l1 x5_1 true a0_0 a0_1 a0_2 a0_3) = some r := by rw [if_neg (show ¬ (false = true) by decide)] at H; exact H
       clear H
       have H := H1
       clear H1
       have H' := zc.mk H
       clear H
       try go_wp2
       have n0_ := zc.mk (zh BK140.out)
       have n1_ := zc.mk (zb HB.out)
       clear BK140
       clear HB
       have BK140 := n0_
       have HB := n1_
       clear n0_ n1_
       have p147 : 0 ≤ (x5_1 : Int) := of_decide_eq_true (by first | (with_reducible assumption) | assumption)
       have q147 : x5_1 < (l1.length : Int) := of_decide_eq_true (by first | (with_reducible assumption) | assumption)
       obtain ⟨ad147, e147, hx147_0, hx147_1, hx147_2, hx147_3, hx147_4, hx147_5, hx147_6, hx147_7, hx147_8, hx147_9, hx147_10, hx147_11, hx147_12, hx147_13, hx147_14, hx147_15, hx147_16, hx147_17, hx147_18, hx147_19, hw147_0, hw147_1, hw147_2, hw147_3, hw147_4, hw147_5, hw147_6, hw147_7, hw147_8, hw147_9, hw147_10, hw147_11, hw147_12, hw147_13, hw147_14, hw147_15, hw147_16, hw147_17, hw147_18, hw147_19⟩ := ab_T54 HB.out HR1.out x5_1 p147 q147
       (try rw [← Nbq8.out] at hx147_18)
       (try rw [← Nbq8.out] at hx147_19)
       obtain rfl : ad142 = ad147 := (by injection e147)
       replace p147 := eq_true p147
       replace q147 := eq_true q147
       have p148 : 0 ≤ (x5_1 : Int) := of_decide_eq_true (by first | (with_reducible assumption) | assumption)
       have q148 : x5_1 < (l1.length : Int) := of_decide_eq_true (by first | (with_reducible assumption) | assumption)
       obtain ⟨ad148, e148, hx148_0, hx148_1, hx148_2, hx148_3, hx148_4, hx148_5, hx148_6, hx148_7, hx148_8, hx148_9, hx148_10, hx148_11, hx148_12, hx148_13, hx148_14, hx148_15, hx148_16, hx148_17, hx148_18, hx148_19, hw148_0, hw148_1, hw148_2, hw148_3, hw148_4, hw148_5, hw148_6, hw148_7, hw148_8, hw148_9, hw148_10, hw148_11, hw148_12, hw148_13, hw148_14, hw148_15, hw148_16, hw148_17, hw148_18, hw148_19⟩ := ab_T54 HB.out HR1.out x5_1 p148 q148
       (try rw [← Nbq8.out] at hx148_18)
       (try rw [← Nbq8.out] at hx148_19)
       obtain rfl : ad142 = ad148 := (by injection e148)
       replace p148 := eq_true p148
       replace q148 := eq_true q148
       refine start_ (n := 23) (S := fun w' => w'.cell? ⟨gb140, 0, none⟩ = some (.int .i8 a0_0) ∧ w'.cell? ⟨gb140, 1, none⟩ = some (.int .i8 a0_1) ∧ w'.cell? ⟨gb140, 2, none⟩ = some (.bool a0_2) ∧ w'.cell? ⟨gb140, 3, none⟩ = some (.bool a0_3) ∧ w'.cell? (ad142.add ((x5_1).toNat * 20)) = some (.int .i8 ((rd_T54 l1 x5_1).f0.f0)) ∧ w'.cell? ⟨(ad142.add ((x5_1).toNat * 20)).block, (ad142.add ((x5_1).toNat * 20)).off + 1, none⟩ = some (.int .i8 ((rd_T54 l1 x5_1).f0.f1)) ∧ w'.cell? ⟨(ad142.add ((x5_1).toNat * 20)).block, (ad142.add ((x5_1).toNat * 20)).off + 2, none⟩ = some (.int .i8 ((rd_T54 l1 x5_1).f0.f2)) ∧ w'.cell? ⟨(ad142.add ((x5_1).toNat * 20)).block, (ad142.add ((x5_1).toNat * 20)).off + 3, none⟩ = some (.int .i8 ((rd_T54 l1 x5_1).f0.f3)) ∧ w'.cell? ⟨(ad142.add ((x5_1).toNat * 20)).block, (ad142.add ((x5_1).toNat * 20)).off + 4, none⟩ = some (.int .i8 ((rd_T54 l1 x5_1).f0.f4)) ∧ w'.cell? ⟨(ad142.add ((x5_1).toNat * 20)).block, (ad142.add ((x5_1).toNat * 20)).off + 5, none⟩ = some (.int .i8 ((rd_T54 l1 x5_1).f0.f5)) ∧ w'.cell? ⟨(ad142.add ((x5_1).toNat * 20)).block, (ad142.add ((x5_1).toNat * 20)).off + 6, none⟩ = some (.int .i8 ((rd_T54 l1 x5_1).f0.f6)) ∧ w'.cell? ⟨(ad142.add ((x5_1).toNat * 20)).block, (ad142.add ((x5_1).toNat * 20)).off + 7, none⟩ = some (.int .i8 ((rd_T54 l1 x5_1).f0.f7)) ∧ w'.cell? ⟨(ad142.add ((x5_1).toNat * 20)).block, (ad142.add ((x5_1).toNat * 20)).off + 8, none⟩ = some (.int .i8 ((rd_T54 l1 x5_1).f0.f8)) ∧ w'.cell? ⟨(ad142.add ((x5_1).toNat * 20)).block, (ad142.add ((x5_1).toNat * 20)).off + 9, none⟩ = some (.int .i8 ((rd_T54 l1 x5_1).f0.f9)) ∧ w'.cell? ⟨(ad142.add ((x5_1).toNat * 20)).block, (ad142.add ((x5_1).toNat * 20)).off + 10, none⟩ = some (.int .i8 ((rd_T54 l1 x5_1).f0.f10)) ∧ w'.cell? ⟨(ad142.add ((x5_1).toNat * 20)).block, (ad142.add ((x5_1).toNat * 20)).off + 11, none⟩ = some (.int .i8 ((rd_T54 l1 x5_1).f0.f11)) ∧ w'.cell? ⟨(ad142.add ((x5_1).toNat * 20)).block, (ad142.add ((x5_1).toNat * 20)).off + 12, none⟩ = some (.int .i8 ((rd_T54 l1 x5_1).f0.f12)) ∧ w'.cell? ⟨(ad142.add ((x5_1).toNat * 20)).block, (ad142.add ((x5_1).toNat * 20)).off + 13, none⟩ = some (.int .i8 ((rd_T54 l1 x5_1).f0.f13)) ∧ w'.cell? ⟨(ad142.add ((x5_1).toNat * 20)).block, (ad142.add ((x5_1).toNat * 20)).off + 14, none⟩ = some (.int .i16 ((rd_T54 l1 x5_1).f1.f0)) ∧ w'.cell? ⟨(ad142.add ((x5_1).toNat * 20)).block, (ad142.add ((x5_1).toNat * 20)).off + 15, none⟩ = some (.int .i16 ((rd_T54 l1 x5_1).f1.f1)) ∧ w'.cell? ⟨(ad142.add ((x5_1).toNat * 20)).block, (ad142.add ((x5_1).toNat * 20)).off + 16, none⟩ = some (.int .i16 ((rd_T54 l1 x5_1).f1.f2)) ∧ w'.cell? ⟨(ad142.add ((x5_1).toNat * 20)).block, (ad142.add ((x5_1).toNat * 20)).off + 17, none⟩ = some (.int .i8 ((rd_T54 l1 x5_1).f2.f0)) ∧ w'.cell? ⟨(ad142.add ((x5_1).toNat * 20)).block, (ad142.add ((x5_1).toNat * 20)).off + 18, none⟩ = some (.bool ((rd_T54 l1 x5_1).f2.f1)) ∧ w'.cell? ⟨(ad142.add ((x5_1).toNat * 20)).block, (ad142.add ((x5_1).toNat * 20)).off + 19, none⟩ = some (.bool (false)) ∧ w'.cell? (ad142.add ((x5_1).toNat * 20)) = some (.int .i8 ((rd_T54 l1 x5_1).f0.f0)) ∧ w'.cell? ⟨(ad142.add ((x5_1).toNat * 20)).block, (ad142.add ((x5_1).toNat * 20)).off + 1, none⟩ = some (.int .i8 ((rd_T54 l1 x5_1).f0.f1)) ∧ w'.cell? ⟨(ad142.add ((x5_1).toNat * 20)).block, (ad142.add ((x5_1).toNat * 20)).off + 2, none⟩ = some (.int .i8 ((rd_T54 l1 x5_1).f0.f2)) ∧ w'.cell? ⟨(ad142.add ((x5_1).toNat * 20)).block, (ad142.add ((x5_1).toNat * 20)).off + 3, none⟩ = some (.int .i8 ((rd_T54 l1 x5_1).f0.f3)) ∧ w'.cell? ⟨(ad142.add ((x5_1).toNat * 20)).block, (ad142.add ((x5_1).toNat * 20)).off + 4, none⟩ = some (.int .i8 ((rd_T54 l1 x5_1).f0.f4)) ∧ w'.cell? ⟨(ad142.add ((x5_1).toNat * 20)).block, (ad142.add ((x5_1).toNat * 20)).off + 5, none⟩ = some (.int .i8 ((rd_T54 l1 x5_1).f0.f5)) ∧ w'.cell? ⟨(ad142.add ((x5_1).toNat * 20)).block, (ad142.add ((x5_1).toNat * 20)).off + 6, none⟩ = some (.int .i8 ((rd_T54 l1 x5_1).f0.f6)) ∧ w'.cell? ⟨(ad142.add ((x5_1).toNat * 20)).block, (ad142.add ((x5_1).toNat * 20)).off + 7, none⟩ = some (.int .i8 ((rd_T54 l1 x5_1).f0.f7)) ∧ w'.cell? ⟨(ad142.add ((x5_1).toNat * 20)).block, (ad142.add ((x5_1).toNat * 20)).off + 8, none⟩ = some (.int .i8 ((rd_T54 l1 x5_1).f0.f8)) ∧ w'.cell? ⟨(ad142.add ((x5_1).toNat * 20)).block, (ad142.add ((x5_1).toNat * 20)).off + 9, none⟩ = some (.int .i8 ((rd_T54 l1 x5_1).f0.f9)) ∧ w'.cell? ⟨(ad142.add ((x5_1).toNat * 20)).block, (ad142.add ((x5_1).toNat * 20)).off + 10, none⟩ = some (.int .i8 ((rd_T54 l1 x5_1).f0.f10)) ∧ w'.cell? ⟨(ad142.add ((x5_1).toNat * 20)).block, (ad142.add ((x5_1).toNat * 20)).off + 11, none⟩ = some (.int .i8 ((rd_T54 l1 x5_1).f0.f11)) ∧ w'.cell? ⟨(ad142.add ((x5_1).toNat * 20)).block, (ad142.add ((x5_1).toNat * 20)).off + 12, none⟩ = some (.int .i8 ((rd_T54 l1 x5_1).f0.f12)) ∧ w'.cell? ⟨(ad142.add ((x5_1).toNat * 20)).block, (ad142.add ((x5_1).toNat * 20)).off + 13, none⟩ = some (.int .i8 ((rd_T54 l1 x5_1).f0.f13)) ∧ w'.cell? ⟨(ad142.add ((x5_1).toNat * 20)).block, (ad142.add ((x5_1).toNat * 20)).off + 14, none⟩ = some (.int .i16 ((rd_T54 l1 x5_1).f1.f0)) ∧ w'.cell? ⟨(ad142.add ((x5_1).toNat * 20)).block, (ad142.add ((x5_1).toNat * 20)).off + 15, none⟩ = some (.int .i16 ((rd_T54 l1 x5_1).f1.f1)) ∧ w'.cell? ⟨(ad142.add ((x5_1).toNat * 20)).block, (ad142.add ((x5_1).toNat * 20)).off + 16, none⟩ = some (.int .i16 ((rd_T54 l1 x5_1).f1.f2)) ∧ w'.cell? ⟨(ad142.add ((x5_1).toNat * 20)).block, (ad142.add ((x5_1).toNat * 20)).off + 17, none⟩ = some (.int .i8 ((rd_T54 l1 x5_1).f2.f0)) ∧ w'.cell? ⟨(ad142.add ((x5_1).toNat * 20)).block, (ad142.add ((x5_1).toNat * 20)).off + 18, none⟩ = some (.bool ((rd_T54 l1 x5_1).f2.f1)) ∧ w'.cell? ⟨(ad142.add ((x5_1).toNat * 20)).block, (ad142.add ((x5_1).toNat * 20)).off + 19, none⟩ = some (.bool (false))) (ds := []) (fm 23 0) (by kernel_rfl) rfl rfl ⟨(zr BK140.out 0).trans rfl, (zr BK140.out 1).trans rfl, (zr BK140.out 2).trans rfl, (zr BK140.out 3).trans rfl, (bc HB.out hw147_0), (bc HB.out hw147_1), (bc HB.out hw147_2), (bc HB.out hw147_3), (bc HB.out hw147_4), (bc HB.out hw147_5), (bc HB.out hw147_6), (bc HB.out hw147_7), (bc HB.out hw147_8), (bc HB.out hw147_9), (bc HB.out hw147_10), (bc HB.out hw147_11), (bc HB.out hw147_12), (bc HB.out hw147_13), (bc HB.out hw147_14), (bc HB.out hw147_15), (bc HB.out hw147_16), (bc HB.out hw147_17), (by first | exact (bc HB.out hw147_18) | (have h_ := (bc HB.out hw147_18); rw [← Nbq8.out] at h_; exact h_)), (by first | exact (bc HB.out hw147_19) | (have h_ := (bc HB.out hw147_19); rw [← Nbq8.out] at h_; exact h_)), (bc HB.out hw148_0), (bc HB.out hw148_1), (bc HB.out hw148_2), (bc HB.out hw148_3), (bc HB.out hw148_4), (bc HB.out hw148_5), (bc HB.out hw148_6), (bc HB.out hw148_7), (bc HB.out hw148_8), (bc HB.out hw148_9), (bc HB.out hw148_10), (bc HB.out hw148_11), (bc HB.out hw148_12), (bc HB.out hw148_13), (bc HB.out hw148_14), (bc HB.out hw148_15), (bc HB.out hw148_16), (bc HB.out hw148_17), (by first | exact (bc HB.out hw148_18) | (have h_ := (bc HB.out hw148_18); rw [← Nbq8.out] at h_; exact h_)), (by first | exact (bc HB.out hw148_19) | (have h_ := (bc HB.out hw148_19); rw [← Nbq8.out] at h_; exact h_))⟩ (fun hHeld => ?_); refine zma spec_l03Plan.tab10 spec_l03Plan.bits10 (fun HT_ HW_ => ?_)
       generalize wr.drew = w27 at BK140 HB hx147_0 hx147_1 hx147_10 hx147_11 hx147_12 hx147_13 hx147_14 hx147_15 hx147_16 hx147_17 hx147_18 hx147_19 hx147_2 hx147_3 hx147_4 hx147_5 hx147_6 hx147_7 hx147_8 hx147_9 hx148_0 hx148_1 hx148_10 hx148_11 hx148_12 hx148_13 hx148_14 hx148_15 hx148_16 hx148_17 hx148_18 hx148_19 hx148_2 hx148_3 hx148_4 hx148_5 hx148_6 hx148_7 hx148_8 hx148_9 hHeld ⊢
       refine pv 0 48 (fm 23 1) rfl rfl (zj HT_.out (by kernel_rfl)) (fun _ _ _ h => h) (Or.inl ⟨by rfl, by intro w'; go_simp; with_reducible rfl⟩) (by simp only [Act.put, ea, eb, ec, zm, zk]; rfl) ?_
       refine pv 1 49 (fm 23 2) rfl rfl (zj HT_.out (by kernel_rfl)) (fun _ _ _ h => h) (Or.inl ⟨by rfl, by intro w'; go_simp; with_reducible rfl⟩) (by simp only [Act.put, ea, eb, ec, zm, zk]; rfl) ?_
       refine pv 2 50 (fm 23 3) rfl rfl (zj HT_.out (by kernel_rfl)) (fun _ _ _ h => h) (Or.inl ⟨by rfl, by intro w'; go_simp; with_reducible rfl⟩) (by simp only [Act.put, ea, eb, ec, zm, zk]; rfl) ?_
       refine pv 4 52 #[T, T, T, F, T, F, F, F, F, F, F, F, F, F, F, F, F, F, F, F, F, F, F] rfl rfl (zj HT_.out (by kernel_rfl)) (fun _ _ _ h => h) (Or.inl ⟨by rfl, by intro w'; go_simp; with_reducible rfl⟩) (by simp only [Act.put, ea, eb, ec, zm, zk]; rfl) ?_
       refine take_ (i := 3) (N := some 51) (v := ?_) (a' := ?_) (fm 23 5) rfl rfl (zca HT_.out HW_.out (by kernel_rfl)) (fun _ _ _ h => h) (Or.inl ⟨by rfl, ?_⟩) hHeld ?_ ?_
       rotate_left
       ·rintro w' ⟨s0, s1, s2, s3, s4, s5, s6, s7, s8, s9, s10, s11, s12, s13, s14, s15, s16, s17, s18, s19, s20, s21, s22, s23, s24, s25, s26, s27, s28, s29, s30, s31, s32, s33, s34, s35, s36, s37, s38, s39, s40, s41, s42, s43⟩
        go_simp
        with_reducible rfl
       rotate_left
       ·simp only [Act.put, List.setIfInBounds_toArray, List.set_cons_zero, List.set_cons_succ, zm, zk]
        rfl
       refine pv 5 53 (fm 23 6) rfl rfl (zj HT_.out (by kernel_rfl)) (fun _ _ _ h => h) (Or.inl ⟨by rfl, by intro w'; go_simp; with_reducible rfl⟩) (by simp only [Act.put, ea, eb, ec, zm, zk]; rfl) ?_
       refine pv 6 54 (fm 23 7) rfl rfl (zj HT_.out (by kernel_rfl)) (fun _ _ _ h => h) (Or.inl ⟨by rfl, by intro w'; go_simp; with_reducible rfl⟩) (by simp only [Act.put, ea, eb, ec, zm, zk]; rfl) ?_
       refine pv 8 56 #[T, T, T, T, T, T, T, F, T, F, F, F, F, F, F, F, F, F, F, F, F, F, F] rfl rfl (zj HT_.out (by kernel_rfl)) (fun _ _ _ h => h) (Or.inl ⟨by rfl, by intro w'; go_simp; with_reducible rfl⟩) (by simp only [Act.put, ea, eb, ec, zm, zk]; rfl) ?_
       refine pv 9 57 #[T, T, T, T, T, T, T, F, T, T, F, F, F, F, F, F, F, F, F, F, F, F, F] rfl rfl (zj HT_.out (by kernel_rfl)) (fun _ _ _ h => h) (Or.inl ⟨by rfl, by intro w'; go_simp; with_reducible rfl⟩) (by simp only [Act.put, ea, eb, ec, zm, zk]; rfl) ?_
       refine pv 10 58 #[T, T, T, T, T, T, T, F, T, T, T, F, F, F, F, F, F, F, F, F, F, F, F] rfl rfl (zj HT_.out (by kernel_rfl)) (fun _ _ _ h => h) (Or.inl ⟨by rfl, by intro w'; go_simp; with_reducible rfl⟩) (by simp only [Act.put, ea, eb, ec, zm, zk]; rfl) ?_
       refine take_ (i := 7) (N := some 55) (v := ?_) (a' := ?_) (fm 23 11) rfl rfl (zca HT_.out HW_.out (by kernel_rfl)) (fun _ _ _ h => h) (Or.inl ⟨by rfl, ?_⟩) hHeld ?_ ?_
       rotate_left
       ·rintro w' ⟨s0, s1, s2, s3, s4, s5, s6, s7, s8, s9, s10, s11, s12, s13, s14, s15, s16, s17, s18, s19, s20, s21, s22, s23, s24, s25, s26, s27, s28, s29, s30, s31, s32, s33, s34, s35, s36, s37, s38, s39, s40, s41, s42, s43⟩
        go_simp
        with_reducible rfl
       rotate_left
       ·simp only [Act.put, List.setIfInBounds_toArray, List.set_cons_zero, List.set_cons_succ, zm, zk]
        rfl
       refine take_ (i := 11) (N := some 59) (v := ?_) (a' := ?_) (fm 23 12) rfl rfl (zca HT_.out HW_.out (by kernel_rfl)) (fun _ _ _ h => h) (Or.inl ⟨by rfl, ?_⟩) hHeld ?_ ?_
       rotate_left
       ·rintro w' ⟨s0, s1, s2, s3, s4, s5, s6, s7, s8, s9, s10, s11, s12, s13, s14, s15, s16, s17, s18, s19, s20, s21, s22, s23, s24, s25, s26, s27, s28, s29, s30, s31, s32, s33, s34, s35, s36, s37, s38, s39, s40, s41, s42, s43⟩
        go_simp
        with_reducible rfl
       rotate_left
       ·simp only [Act.put, List.setIfInBounds_toArray, List.set_cons_zero, List.set_cons_succ, zm, zk]
        rfl
       refine one_ (i := 12) (N := some 60) (fm 23 13) rfl rfl (one_of HT_.out (by kernel_rfl)) (by decide) (fun K hK => ?_)
       refine goes_ Try.func55 (by kernel_rfl) rfl #[.agg #[.int .i8 a0_0, .int .i8 a0_1, .bool a0_2, .bool a0_3], .agg #[.int .i8 ((rd_T54 l1 x5_1).f0.f0), .int .i8 ((rd_T54 l1 x5_1).f0.f1), .int .i8 ((rd_T54 l1 x5_1).f0.f2), .int .i8 ((rd_T54 l1 x5_1).f0.f3), .int .i8 ((rd_T54 l1 x5_1).f0.f4), .int .i8 ((rd_T54 l1 x5_1).f0.f5), .int .i8 ((rd_T54 l1 x5_1).f0.f6), .int .i8 ((rd_T54 l1 x5_1).f0.f7), .int .i8 ((rd_T54 l1 x5_1).f0.f8), .int .i8 ((rd_T54 l1 x5_1).f0.f9), .int .i8 ((rd_T54 l1 x5_1).f0.f10), .int .i8 ((rd_T54 l1 x5_1).f0.f11), .int .i8 ((rd_T54 l1 x5_1).f0.f12), .int .i8 ((rd_T54 l1 x5_1).f0.f13)]] (by rfl) rfl rfl (by (try simp only [List.map_toArray, List.map_cons, List.map_nil]); first | done | rfl | (simp only [List.length_drop, List.length_take]; rfl)) ?_
       with_reducible refine (spec_l03Weighing.calls k1 a0_0 a0_1 a0_2 a0_3 ((rd_T54 l1 x5_1).f0.f0) ((rd_T54 l1 x5_1).f0.f1) ((rd_T54 l1 x5_1).f0.f2) ((rd_T54 l1 x5_1).f0.f3) ((rd_T54 l1 x5_1).f0.f4) ((rd_T54 l1 x5_1).f0.f5) ((rd_T54 l1 x5_1).f0.f6) ((rd_T54 l1 x5_1).f0.f7) ((rd_T54 l1 x5_1).f0.f8) ((rd_T54 l1 x5_1).f0.f9) ((rd_T54 l1 x5_1).f0.f10) ((rd_T54 l1 x5_1).f0.f11) ((rd_T54 l1 x5_1).f0.f12) ((rd_T54 l1 x5_1).f0.f13) false _ A23.out).mono ?_
       rintro e w28 ⟨rfl, hb⟩
       refine ⟨_, rfl, ?_⟩
       have n0_ := zc.mk (zi (by (with_reducible repeat (first | refine zf ?_ _ | refine zh ?_ | refine zg ?_ _)); exact BK140.out) hb)
       have n1_ := zc.mk (zp (by repeat (first | (with_reducible first | exact HB.out | apply zd | apply za | apply zb | refine ze ?_ GE140.out) | exact HB.out)) hb)
       clear BK140
       clear HB
       have BK140 := n0_
       have HB := n1_
       clear n0_ n1_
       (try clear hb)
       (try clear hb2)
       (try clear hk)
       (try clear hi)
       refine hK.out _ _ ⟨(zr BK140.out 0).trans rfl, (zr BK140.out 1).trans rfl, (zr BK140.out 2).trans rfl, (zr BK140.out 3).trans rfl, (bc HB.out hw147_0), (bc HB.out hw147_1), (bc HB.out hw147_2), (bc HB.out hw147_3), (bc HB.out hw147_4), (bc HB.out hw147_5), (bc HB.out hw147_6), (bc HB.out hw147_7), (bc HB.out hw147_8), (bc HB.out hw147_9), (bc HB.out hw147_10), (bc HB.out hw147_11), (bc HB.out hw147_12), (bc HB.out hw147_13), (bc HB.out hw147_14), (bc HB.out hw147_15), (bc HB.out hw147_16), (bc HB.out hw147_17), (by first | exact (bc HB.out hw147_18) | (have h_ := (bc HB.out hw147_18); rw [← Nbq8.out] at h_; exact h_)), (by first | exact (bc HB.out hw147_19) | (have h_ := (bc HB.out hw147_19); rw [← Nbq8.out] at h_; exact h_)), (bc HB.out hw148_0), (bc HB.out hw148_1), (bc HB.out hw148_2), (bc HB.out hw148_3), (bc HB.out hw148_4), (bc HB.out hw148_5), (bc HB.out hw148_6), (bc HB.out hw148_7), (bc HB.out hw148_8), (bc HB.out hw148_9), (bc HB.out hw148_10), (bc HB.out hw148_11), (bc HB.out hw148_12), (bc HB.out hw148_13), (bc HB.out hw148_14), (bc HB.out hw148_15), (bc HB.out hw148_16), (bc HB.out hw148_17), (by first | exact (bc HB.out hw148_18) | (have h_ := (bc HB.out hw148_18); rw [← Nbq8.out] at h_; exact h_)), (by first | exact (bc HB.out hw148_19) | (have h_ := (bc HB.out hw148_19); rw [← Nbq8.out] at h_; exact h_))⟩ (fun hHeld => ?_)
       clear hK K
       refine norm_ (a' := ?_) ?_ ?_
       rotate_left
       ·show Act.put _ (some 60) _ = _
        simp only [Act.put, List.setIfInBounds_toArray, List.set_cons_zero, List.set_cons_succ, zm, zk]
        rfl
       refine pv 13 61 (fm 23 14) rfl rfl (zj HT_.out (by kernel_rfl)) (fun _ _ _ h => h) (Or.inl ⟨by rfl, by intro w'; go_simp; with_reducible rfl⟩) (by simp only [Act.put, ea, eb, ec, zm, zk]; rfl) ?_
       refine pv 14 62 (fm 23 15) rfl rfl (zj HT_.out (by kernel_rfl)) (fun _ _ _ h => h) (Or.inl ⟨by rfl, by intro w'; go_simp; with_reducible rfl⟩) (by simp only [Act.put, ea, eb, ec, zm, zk]; rfl) ?_
       refine pv 15 63 (fm 23 16) rfl rfl (zj HT_.out (by kernel_rfl)) (fun _ _ _ h => h) (Or.inl ⟨by rfl, by intro w'; go_simp; with_reducible rfl⟩) (by simp only [Act.put, ea, eb, ec, zm, zk]; rfl) ?_
       refine pu 16 64 (fm 23 17) rfl rfl (zj HT_.out (by kernel_rfl)) (fun _ _ _ h => h) (Or.inr ⟨by rfl, rfl⟩) (by simp only [Act.put, ea, eb, ec, zm, zk]; rfl) ?_
       refine pu 17 65 (fm 23 18) rfl rfl (zj HT_.out (by kernel_rfl)) (fun _ _ _ h => h) (Or.inr ⟨by rfl, rfl⟩) (by simp only [Act.put, ea, eb, ec, zm, zk]; rfl) ?_
       refine pu 18 66 (fm 23 19) rfl rfl (zj HT_.out (by kernel_rfl)) (fun _ _ _ h => h) (Or.inr ⟨by rfl, rfl⟩) (by simp only [Act.put, ea, eb, ec, zm, zk]; rfl) ?_
       refine pu 19 67 (fm 23 20) rfl rfl (zj HT_.out (by kernel_rfl)) (fun _ _ _ h => h) (Or.inr ⟨by rfl, rfl⟩) (by simp only [Act.put, ea, eb, ec, zm, zk]; rfl) ?_
       refine pu 20 68 (fm 23 21) rfl rfl (zj HT_.out (by kernel_rfl)) (fun _ _ _ h => h) (Or.inr ⟨by rfl, rfl⟩) (by simp only [Act.put, ea, eb, ec, zm, zk]; rfl) ?_
       refine pu 21 69 (fm 23 22) rfl rfl (zj HT_.out (by kernel_rfl)) (fun _ _ _ h => h) (Or.inr ⟨by rfl, rfl⟩) (by simp only [Act.put, ea, eb, ec, zm, zk]; rfl) ?_
       refine pv 22 70 (fm 23 23) rfl rfl (zj HT_.out (by kernel_rfl)) (fun _ _ _ h => h) (Or.inl ⟨by rfl, by intro w'; go_simp; with_reducible rfl⟩) (by simp only [Act.put, ea, eb, ec, zm, zk]; rfl) ?_
       refine done_ (done_of HT_.out (by kernel_rfl)) ?_
       try go_wp2
       go_meet
       case rel => exact ⟨_, (true), (by first | rfl | (simp; done) | (simp [*]; done)), H', ⟨by have := HK1.out; first | omega | exact Nat.le_refl _⟩, ⟨by (with_reducible repeat (first | refine zf ?_ _ | refine zh ?_ | refine zg ?_ _)); exact BK140.out⟩, ⟨by repeat (first | (with_reducible first | exact HB.out | apply zd | apply za | apply zb | refine ze ?_ GE140.out) | exact HB.out)⟩⟩
      case rest =>
       clear HC20
       try clear p1
       try clear q1
       try clear hx1
       try clear c2
       try clear p2
       try clear c5
       try clear q8
       try clear p14
       try clear q14
       try clear hx14
       try clear p15
       try clear q15
       try clear hx15
       try clear c24
       try clear hx147_0
       try clear hx147_1
       try clear hx147_10
       try clear hx147_11
       try clear hx147_12
       try clear hx147_13
       try clear hx147_14
       try clear hx147_15
       try clear hx147_16
       try clear hx147_17
       try clear hx147_18
       try clear hx147_19
       try clear hx147_2
       try clear hx147_3
       try clear hx147_4
       try clear hx147_5
       try clear hx147_6
       try clear hx147_7
       try clear hx147_8
       try clear hx147_9
       try clear hx148_0
       try clear hx148_1
       try clear hx148_10
       try clear hx148_11
       try clear hx148_12
       try clear hx148_13
       try clear hx148_14
       try clear hx148_15
       try clear hx148_16
       try clear hx148_17
       try clear hx148_18
       try clear hx148_19
       try clear hx148_2
       try clear hx148_3
       try clear hx148_4
       try clear hx148_5
       try clear hx148_6
       try clear hx148_7
       try clear hx148_8
       try clear hx148_9
       try clear hx150_0
       try clear hx150_1
       try clear hx150_10
       try clear hx150_11
       try clear hx150_12
       try clear hx150_13
       try clear hx150_14
       try clear hx150_15
       try clear hx150_16
       try clear hx150_17
       try clear hx150_18
       try clear hx150_19
       try clear hx150_2
       try clear hx150_3
       try clear hx150_4
       try clear hx150_5
       try clear hx150_6
       try clear hx150_7
       try clear hx150_8
       try clear hx150_9
       try clear p147
       try clear p148
       try clear p150
       try clear q147
       try clear q148
       try clear q150
       obtain ⟨kq, x70_19, rfl, HA, HJ19, BK140, HB⟩ := hcut
       cases kq with
       | zero => exact absurd HA.out (by simp [spec_l03Plan.j1])
       | succ kj19 =>
        have H := HA.out
        clear HA
        simp only [spec_l03Plan.j1] at H
        by_cases c29 : x70_19 = true
        ·subst c29
         have H1 : (some false) = some r := by rw [if_pos rfl] at H; exact H
         clear H
         have H := H1
         clear H1
         obtain rfl := Option.some.inj H
         go_wp2
         go_ret
         exact ⟨by first | rfl | (simp [errW_none, errW_some] <;> rfl) | (simp [*, errW_none, errW_some] <;> rfl), by repeat (first | (with_reducible first | exact HB.out | apply zd | apply za | apply zb | refine ze ?_ GE140.out) | exact HB.out)⟩
        replace c29 := Bool.eq_false_iff.mpr c29
        subst c29
        have H1 : (spec_l03Plan.l1 kj19 l1 x5_1 0 a0_0 a0_1 a0_2 a0_3) = some r := by rw [if_neg (show ¬ (false = true) by decide)] at H; exact H
        clear H
        have H := H1
        clear H1
        have H' := zc.mk H
        clear H
        go_wp2
        go_loopg [7] kj19 (fun kq v7 w' => ∃ (x7_3 : Int), v7 = .int .i64 x7_3 ∧ zc (spec_l03Plan.l1 kq l1 x5_1 x7_3 a0_0 a0_1 a0_2 a0_3 = some r) ∧ zc (kq ≤ kj19) ∧ zc (w'.heap[gb140]? = some (.cells #[.int .i8 a0_0, .int .i8 a0_1, .bool a0_2, .bool a0_3] 29 (0, 0))) ∧ zc (Below w.heap.size w w'))
        case atStart => exact ⟨(0), (by first | rfl | (simp; done) | (simp [*]; done)), H', ⟨Nat.le_refl _⟩, ⟨by (with_reducible repeat (first | refine zf ?_ _ | refine zh ?_ | refine zg ?_ _)); exact BK140.out⟩, ⟨by repeat (first | (with_reducible first | exact HB.out | apply zd | apply za | apply zb | refine ze ?_ GE140.out) | exact HB.out)⟩⟩
        case round =>
         clear H'
         try clear p1
         try clear q1
         try clear hx1
         try clear c2
         try clear p2
         try clear c5
         try clear q8
         try clear p14
         try clear q14
         try clear hx14
         try clear p15
         try clear q15
         try clear hx15
         try clear c24
         try clear c29
         try clear hx147_0
         try clear hx147_1
         try clear hx147_10
         try clear hx147_11
         try clear hx147_12
         try clear hx147_13
         try clear hx147_14
         try clear hx147_15
         try clear hx147_16
         try clear hx147_17
         try clear hx147_18
         try clear hx147_19
         try clear hx147_2
         try clear hx147_3
         try clear hx147_4
         try clear hx147_5
         try clear hx147_6
         try clear hx147_7
         try clear hx147_8
         try clear hx147_9
         try clear hx148_0
         try clear hx148_1
         try clear hx148_10
         try clear hx148_11
         try clear hx148_12
         try clear hx148_13
         try clear hx148_14
         try clear hx148_15
         try clear hx148_16
         try clear hx148_17
         try clear hx148_18
         try clear hx148_19
         try clear hx148_2
         try clear hx148_3
         try clear hx148_4
         try clear hx148_5
         try clear hx148_6
         try clear hx148_7
         try clear hx148_8
         try clear hx148_9
         try clear hx150_0
         try clear hx150_1
         try clear hx150_10
         try clear hx150_11
         try clear hx150_12
         try clear hx150_13
         try clear hx150_14
         try clear hx150_15
         try clear hx150_16
         try clear hx150_17
         try clear hx150_18
         try clear hx150_19
         try clear hx150_2
         try clear hx150_3
         try clear hx150_4
         try clear hx150_5
         try clear hx150_6
         try clear hx150_7
         try clear hx150_8
         try clear hx150_9
         try clear p1
         try clear p14
         try clear p147
         try clear p148
         try clear p15
         try clear p150
         try clear p2
         try clear q1
         try clear q14
         try clear q147
         try clear q148
         try clear q15
         try clear q150
         try clear q8
         obtain ⟨x7_3, rfl, HA, HK3, BK140, HB⟩ := hrel
         cases gk with
         | zero => exact absurd HA.out (by simp [spec_l03Plan.l1])
         | succ k3 =>
          have H := HA.out
          clear HA
          simp only [spec_l03Plan.l1] at H
          by_cases c30 : x7_3 < 3
          ·rw [if_pos c30] at H
           have c30b0 : decide (x7_3 < 3) = true := decide_eq_true c30
           clear c30
           by_cases c31 : 0 ≤ x7_3
           ·rw [if_pos c31] at H
            have c31b0 : decide (0 ≤ x7_3) = true := decide_eq_true c31
            clear c31
            by_cases c32 : (wrap64 (rd [(rd_T54 l1 x5_1).f1.f0, (rd_T54 l1 x5_1).f1.f1, (rd_T54 l1 x5_1).f1.f2] x7_3)) ≤ x5_1
            ·rw [if_pos c32] at H
             have c32b0 : decide ((wrap64 (rd [(rd_T54 l1 x5_1).f1.f0, (rd_T54 l1 x5_1).f1.f1, (rd_T54 l1 x5_1).f1.f2] x7_3)) ≤ x5_1) = true := decide_eq_true c32
             (try (have c32b1 : decide ((IntKind.i64.wrap (rd [(rd_T54 l1 x5_1).f1.f0, (rd_T54 l1 x5_1).f1.f1, (rd_T54 l1 x5_1).f1.f2] x7_3)) ≤ x5_1) = true := by have h_ : decide ((wrap64 (rd [(rd_T54 l1 x5_1).f1.f0, (rd_T54 l1 x5_1).f1.f1, (rd_T54 l1 x5_1).f1.f2] x7_3)) ≤ x5_1) = true := decide_eq_true c32; simpa only [zm, zk] using h_))
             clear c32
             obtain rfl := Option.some.inj H
             have p151 : 0 ≤ (x5_1 : Int) := of_decide_eq_true (by first | (with_reducible assumption) | assumption)
             have q151 : x5_1 < (l1.length : Int) := of_decide_eq_true (by first | (with_reducible assumption) | assumption)
             obtain ⟨ad151, e151, hx151_0, hx151_1, hx151_2, hx151_3, hx151_4, hx151_5, hx151_6, hx151_7, hx151_8, hx151_9, hx151_10, hx151_11, hx151_12, hx151_13, hx151_14, hx151_15, hx151_16, hx151_17, hx151_18, hx151_19⟩ := ac_T54 HB.out HR1.out x5_1 p151 q151
             (try rw [← Nbq8.out] at hx151_18)
             (try rw [← Nbq8.out] at hx151_19)
             obtain rfl : ad142 = ad151 := (by injection e151)
             replace p151 := eq_true p151
             replace q151 := eq_true q151
             have hx33_0 : wr.cell? ⟨(ad142.add ((x5_1).toNat * 20)).block, (ad142.add ((x5_1).toNat * 20)).off + 14 + (x7_3).toNat, none⟩ = some (.int .i16 (rd [(rd_T54 l1 x5_1).f1.f0, (rd_T54 l1 x5_1).f1.f1, (rd_T54 l1 x5_1).f1.f2] x7_3)) := by rcases (show (x7_3 : Int) = 0 ∨ (x7_3 : Int) = 1 ∨ (x7_3 : Int) = 2 by have hp_ : 0 ≤ (x7_3 : Int) := of_decide_eq_true (by first | (with_reducible assumption) | assumption); have hq_ : x7_3 < (3 : Int) := of_decide_eq_true (by first | (with_reducible assumption) | assumption); omega) with h_ | h_ | h_ <;> rw [h_] <;> first | exact hx151_14 | exact hx151_15 | exact hx151_16
             have p33 : 0 ≤ (x7_3 : Int) := of_decide_eq_true (by first | (with_reducible assumption) | assumption)
             have q33 : x7_3 < (3 : Int) := of_decide_eq_true (by first | (with_reducible assumption) | assumption)
             replace p33 := eq_true p33
             replace q33 := eq_true q33
             go_wp2
             go_ret
             exact ⟨by first | rfl | (simp [errW_none, errW_some] <;> rfl) | (simp [*, errW_none, errW_some] <;> rfl), by repeat (first | (with_reducible first | exact HB.out | apply zd | apply za | apply zb | refine ze ?_ GE140.out) | exact HB.out)⟩
            rw [if_neg c32] at H
            have c32b0 : decide ((wrap64 (rd [(rd_T54 l1 x5_1).f1.f0, (rd_T54 l1 x5_1).f1.f1, (rd_T54 l1 x5_1).f1.f2] x7_3)) ≤ x5_1) = false := decide_eq_false c32
            (try (have c32b1 : decide ((IntKind.i64.wrap (rd [(rd_T54 l1 x5_1).f1.f0, (rd_T54 l1 x5_1).f1.f1, (rd_T54 l1 x5_1).f1.f2] x7_3)) ≤ x5_1) = false := by have h_ : decide ((wrap64 (rd [(rd_T54 l1 x5_1).f1.f0, (rd_T54 l1 x5_1).f1.f1, (rd_T54 l1 x5_1).f1.f2] x7_3)) ≤ x5_1) = false := decide_eq_false c32; simpa only [zm, zk] using h_))
            clear c32
            by_cases c34 : (wrap64 (rd [(rd_T54 l1 x5_1).f1.f0, (rd_T54 l1 x5_1).f1.f1, (rd_T54 l1 x5_1).f1.f2] x7_3)) ≥ (l1.length : Int)
            ·rw [if_pos c34] at H
             have c34b0 : decide ((l1.length : Int) ≤ (wrap64 (rd [(rd_T54 l1 x5_1).f1.f0, (rd_T54 l1 x5_1).f1.f1, (rd_T54 l1 x5_1).f1.f2] x7_3))) = true := decide_eq_true c34
             (try (have c34b1 : decide ((l1.length : Int) ≤ (IntKind.i64.wrap (rd [(rd_T54 l1 x5_1).f1.f0, (rd_T54 l1 x5_1).f1.f1, (rd_T54 l1 x5_1).f1.f2] x7_3))) = true := by have h_ : decide ((l1.length : Int) ≤ (wrap64 (rd [(rd_T54 l1 x5_1).f1.f0, (rd_T54 l1 x5_1).f1.f1, (rd_T54 l1 x5_1).f1.f2] x7_3))) = true := decide_eq_true c34; simpa only [zm, zk] using h_))
             clear c34
             obtain rfl := Option.some.inj H
             have p151 : 0 ≤ (x5_1 : Int) := of_decide_eq_true (by first | (with_reducible assumption) | assumption)
             have q151 : x5_1 < (l1.length : Int) := of_decide_eq_true (by first | (with_reducible assumption) | assumption)
             obtain ⟨ad151, e151, hx151_0, hx151_1, hx151_2, hx151_3, hx151_4, hx151_5, hx151_6, hx151_7, hx151_8, hx151_9, hx151_10, hx151_11, hx151_12, hx151_13, hx151_14, hx151_15, hx151_16, hx151_17, hx151_18, hx151_19⟩ := ac_T54 HB.out HR1.out x5_1 p151 q151
             (try rw [← Nbq8.out] at hx151_18)
             (try rw [← Nbq8.out] at hx151_19)
             obtain rfl : ad142 = ad151 := (by injection e151)
             replace p151 := eq_true p151
             replace q151 := eq_true q151
             have hx35_0 : wr.cell? ⟨(ad142.add ((x5_1).toNat * 20)).block, (ad142.add ((x5_1).toNat * 20)).off + 14 + (x7_3).toNat, none⟩ = some (.int .i16 (rd [(rd_T54 l1 x5_1).f1.f0, (rd_T54 l1 x5_1).f1.f1, (rd_T54 l1 x5_1).f1.f2] x7_3)) := by rcases (show (x7_3 : Int) = 0 ∨ (x7_3 : Int) = 1 ∨ (x7_3 : Int) = 2 by have hp_ : 0 ≤ (x7_3 : Int) := of_decide_eq_true (by first | (with_reducible assumption) | assumption); have hq_ : x7_3 < (3 : Int) := of_decide_eq_true (by first | (with_reducible assumption) | assumption); omega) with h_ | h_ | h_ <;> rw [h_] <;> first | exact hx151_14 | exact hx151_15 | exact hx151_16
             have p35 : 0 ≤ (x7_3 : Int) := of_decide_eq_true (by first | (with_reducible assumption) | assumption)
             have q35 : x7_3 < (3 : Int) := of_decide_eq_true (by first | (with_reducible assumption) | assumption)
             replace p35 := eq_true p35
             replace q35 := eq_true q35
             have p153 : 0 ≤ (x5_1 : Int) := of_decide_eq_true (by first | (with_reducible assumption) | assumption)
             have q153 : x5_1 < (l1.length : Int) := of_decide_eq_true (by first | (with_reducible assumption) | assumption)
             obtain ⟨ad153, e153, hx153_0, hx153_1, hx153_2, hx153_3, hx153_4, hx153_5, hx153_6, hx153_7, hx153_8, hx153_9, hx153_10, hx153_11, hx153_12, hx153_13, hx153_14, hx153_15, hx153_16, hx153_17, hx153_18, hx153_19⟩ := ac_T54 HB.out HR1.out x5_1 p153 q153
             (try rw [← Nbq8.out] at hx153_18)
             (try rw [← Nbq8.out] at hx153_19)
             obtain rfl : ad142 = ad153 := (by injection e153)
             replace p153 := eq_true p153
             replace q153 := eq_true q153
             have hx36_0 : wr.cell? ⟨(ad142.add ((x5_1).toNat * 20)).block, (ad142.add ((x5_1).toNat * 20)).off + 14 + (x7_3).toNat, none⟩ = some (.int .i16 (rd [(rd_T54 l1 x5_1).f1.f0, (rd_T54 l1 x5_1).f1.f1, (rd_T54 l1 x5_1).f1.f2] x7_3)) := by rcases (show (x7_3 : Int) = 0 ∨ (x7_3 : Int) = 1 ∨ (x7_3 : Int) = 2 by have hp_ : 0 ≤ (x7_3 : Int) := of_decide_eq_true (by first | (with_reducible assumption) | assumption); have hq_ : x7_3 < (3 : Int) := of_decide_eq_true (by first | (with_reducible assumption) | assumption); omega) with h_ | h_ | h_ <;> rw [h_] <;> first | exact hx153_14 | exact hx153_15 | exact hx153_16
             have p36 : 0 ≤ (x7_3 : Int) := of_decide_eq_true (by first | (with_reducible assumption) | assumption)
             have q36 : x7_3 < (3 : Int) := of_decide_eq_true (by first | (with_reducible assumption) | assumption)
             replace p36 := eq_true p36
             replace q36 := eq_true q36
             go_wp2
             go_ret
             exact ⟨by first | rfl | (simp [errW_none, errW_some] <;> rfl) | (simp [*, errW_none, errW_some] <;> rfl), by repeat (first | (with_reducible first | exact HB.out | apply zd | apply za | apply zb | refine ze ?_ GE140.out) | exact HB.out)⟩
            rw [if_neg c34] at H
            have c34b0 : decide ((l1.length : Int) ≤ (wrap64 (rd [(rd_T54 l1 x5_1).f1.f0, (rd_T54 l1 x5_1).f1.f1, (rd_T54 l1 x5_1).f1.f2] x7_3))) = false := decide_eq_false c34
            (try (have c34b1 : decide ((l1.length : Int) ≤ (IntKind.i64.wrap (rd [(rd_T54 l1 x5_1).f1.f0, (rd_T54 l1 x5_1).f1.f1, (rd_T54 l1 x5_1).f1.f2] x7_3))) = false := by have h_ : decide ((l1.length : Int) ≤ (wrap64 (rd [(rd_T54 l1 x5_1).f1.f0, (rd_T54 l1 x5_1).f1.f1, (rd_T54 l1 x5_1).f1.f2] x7_3))) = false := decide_eq_false c34; simpa only [zm, zk] using h_))
            clear c34
            have H' := zc.mk H
            clear H
            have p151 : 0 ≤ (x5_1 : Int) := of_decide_eq_true (by first | (with_reducible assumption) | assumption)
            have q151 : x5_1 < (l1.length : Int) := of_decide_eq_true (by first | (with_reducible assumption) | assumption)
            obtain ⟨ad151, e151, hx151_0, hx151_1, hx151_2, hx151_3, hx151_4, hx151_5, hx151_6, hx151_7, hx151_8, hx151_9, hx151_10, hx151_11, hx151_12, hx151_13, hx151_14, hx151_15, hx151_16, hx151_17, hx151_18, hx151_19⟩ := ac_T54 HB.out HR1.out x5_1 p151 q151
            (try rw [← Nbq8.out] at hx151_18)
            (try rw [← Nbq8.out] at hx151_19)
            obtain rfl : ad142 = ad151 := (by injection e151)
            replace p151 := eq_true p151
            replace q151 := eq_true q151
            have hx37_0 : wr.cell? ⟨(ad142.add ((x5_1).toNat * 20)).block, (ad142.add ((x5_1).toNat * 20)).off + 14 + (x7_3).toNat, none⟩ = some (.int .i16 (rd [(rd_T54 l1 x5_1).f1.f0, (rd_T54 l1 x5_1).f1.f1, (rd_T54 l1 x5_1).f1.f2] x7_3)) := by rcases (show (x7_3 : Int) = 0 ∨ (x7_3 : Int) = 1 ∨ (x7_3 : Int) = 2 by have hp_ : 0 ≤ (x7_3 : Int) := of_decide_eq_true (by first | (with_reducible assumption) | assumption); have hq_ : x7_3 < (3 : Int) := of_decide_eq_true (by first | (with_reducible assumption) | assumption); omega) with h_ | h_ | h_ <;> rw [h_] <;> first | exact hx151_14 | exact hx151_15 | exact hx151_16
            have p37 : 0 ≤ (x7_3 : Int) := of_decide_eq_true (by first | (with_reducible assumption) | assumption)
            have q37 : x7_3 < (3 : Int) := of_decide_eq_true (by first | (with_reducible assumption) | assumption)
            replace p37 := eq_true p37
            replace q37 := eq_true q37
            have p153 : 0 ≤ (x5_1 : Int) := of_decide_eq_true (by first | (with_reducible assumption) | assumption)
            have q153 : x5_1 < (l1.length : Int) := of_decide_eq_true (by first | (with_reducible assumption) | assumption)
            obtain ⟨ad153, e153, hx153_0, hx153_1, hx153_2, hx153_3, hx153_4, hx153_5, hx153_6, hx153_7, hx153_8, hx153_9, hx153_10, hx153_11, hx153_12, hx153_13, hx153_14, hx153_15, hx153_16, hx153_17, hx153_18, hx153_19⟩ := ac_T54 HB.out HR1.out x5_1 p153 q153
            (try rw [← Nbq8.out] at hx153_18)
            (try rw [← Nbq8.out] at hx153_19)
            obtain rfl : ad142 = ad153 := (by injection e153)
            replace p153 := eq_true p153
            replace q153 := eq_true q153
            have hx38_0 : wr.cell? ⟨(ad142.add ((x5_1).toNat * 20)).block, (ad142.add ((x5_1).toNat * 20)).off + 14 + (x7_3).toNat, none⟩ = some (.int .i16 (rd [(rd_T54 l1 x5_1).f1.f0, (rd_T54 l1 x5_1).f1.f1, (rd_T54 l1 x5_1).f1.f2] x7_3)) := by rcases (show (x7_3 : Int) = 0 ∨ (x7_3 : Int) = 1 ∨ (x7_3 : Int) = 2 by have hp_ : 0 ≤ (x7_3 : Int) := of_decide_eq_true (by first | (with_reducible assumption) | assumption); have hq_ : x7_3 < (3 : Int) := of_decide_eq_true (by first | (with_reducible assumption) | assumption); omega) with h_ | h_ | h_ <;> rw [h_] <;> first | exact hx153_14 | exact hx153_15 | exact hx153_16
            have p38 : 0 ≤ (x7_3 : Int) := of_decide_eq_true (by first | (with_reducible assumption) | assumption)
            have q38 : x7_3 < (3 : Int) := of_decide_eq_true (by first | (with_reducible assumption) | assumption)
            replace p38 := eq_true p38
            replace q38 := eq_true q38
            go_wp2
            go_roundg k3
            case measure => have := HK1.out; have := HJ19.out; have := HK3.out; omega
            case rel => exact ⟨(wrap64 (x7_3 + 1)), (by first | rfl | (simp; done) | (simp [*]; done)), H', ⟨by have := HK1.out; have := HJ19.out; have := HK3.out; omega⟩, ⟨by (with_reducible repeat (first | refine zf ?_ _ | refine zh ?_ | refine zg ?_ _)); exact BK140.out⟩, ⟨by repeat (first | (with_reducible first | exact HB.out | apply zd | apply za | apply zb | refine ze ?_ GE140.out) | exact HB.out)⟩⟩
           rw [if_neg c31] at H
           exact absurd H (by simp)
          rw [if_neg c30] at H
          have c30b0 : decide (x7_3 < 3) = false := decide_eq_false c30
          clear c30
          have H' := zc.mk H
          clear H
          go_wp2
          go_roundg k3
          case measure => have := HK1.out; have := HJ19.out; have := HK3.out; omega
          case rel => exact ⟨(wrap64 (x5_1 + 1)), (by first | rfl | (simp; done) | (simp [*]; done)), H', ⟨by have := HK1.out; have := HJ19.out; have := HK3.out; omega⟩, ⟨by (with_reducible repeat (first | refine zf ?_ _ | refine zh ?_ | refine zg ?_ _)); exact BK140.out⟩, ⟨by repeat (first | (with_reducible first | exact HB.out | apply zd | apply za | apply zb | refine ze ?_ GE140.out) | exact HB.out)⟩⟩
     rw [if_neg c7] at H
     exact absurd H (by simp)
    rw [if_neg c6] at H
    have c6b0 : decide (x5_1 < (l1.length : Int)) = false := decide_eq_false c6
    clear c6
    obtain rfl := Option.some.inj H
    go_wp2
    go_ret
    exact ⟨by first | rfl | (simp [errW_none, errW_some] <;> rfl) | (simp [*, errW_none, errW_some] <;> rfl), by repeat (first | (with_reducible first | exact HB.out | apply zd | apply za | apply zb | refine ze ?_ GE140.out) | exact HB.out)⟩
 replace c4 := Bool.eq_false_iff.mpr c4
 subst c4
 have H1 : (some false) = some r := by rw [if_neg (show ¬ (false = true) by decide)] at H; exact H
 clear H
 have H := H1
 clear H1
 obtain rfl := Option.some.inj H
 go_enter Try.func40, Try.ntmps40
 go_wp2_with (first | ((with_reducible refine zn (N := 2) rfl ?_); (try (refine gate_guard (by rfl) ?_; dsimp only)); refine zo ?hg (N := 2) ?hd (cs := #[.int .i8 a0_0, .int .i8 a0_1, .bool a0_2, .bool a0_3]) (t := 29) ?hr ?_; (case hd => rfl); (case hg => rfl); (case hr => first | (go_simp; done) | (go_simp; rfl)); intro gb140 hg w39 hbox hb; obtain ⟨n0_, n2_⟩ := bx (by repeat (first | (with_reducible first | exact HB.out | apply zd | apply za | apply zb) | exact HB.out)) hb hg; have n1_ := zc.mk (hbox); have n3_ := n2_; clear HB; have HB := n0_; have BK140 := n1_; have GW140 := n2_; have GE140 := n3_; clear n0_ n1_ n2_ n3_; clear hb hbox hg) | ((with_reducible refine zl (f := 37) rfl ?_); refine zw (some 10) rfl rfl Try.func37 (by kernel_rfl) rfl #[.int .i64 (l1.length : Int), .int .i64 1, .int .i64 400] rfl (by (try simp only [List.map_toArray, List.map_cons, List.map_nil]); first | done | rfl | (simp only [List.length_drop, List.length_take]; rfl)) ?_; (with_reducible refine (spec_l00In.calls (l1.length : Int) 1 400 false _ A3.out).mono ?_); rintro e w' ⟨rfl, ⟨nd, rfl⟩⟩; refine ⟨_, rfl, ?_⟩))
 go_ret
 exact ⟨by first | rfl | (simp [errW_none, errW_some] <;> rfl) | (simp [*, errW_none, errW_some] <;> rfl), by repeat (first | (with_reducible first | exact HB.out | apply zd | apply za | apply zb | refine ze ?_ GE140.out) | exact HB.out)⟩

end Go.Proofs.Ytmmonhpjjjdnjaa.Y
