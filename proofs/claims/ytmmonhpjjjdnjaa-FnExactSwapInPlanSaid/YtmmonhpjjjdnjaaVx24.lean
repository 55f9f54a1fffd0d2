-- Written by wip/tools/myprint.py.
import Derived.Test.YtmmonhpjjjdnjaaVx0
import Derived.Test.YtmmonhpjjjdnjaaLLoadV
import Derived.Test.YtmmonhpjjjdnjaaVx19
import Derived.Test.YtmmonhpjjjdnjaaVx22
import Derived.Test.YtmmonhpjjjdnjaaVx23
namespace Go.Proofs.Ytmmonhpjjjdnjaa.V
open Go.RowKit Go.Proofs.YtmmonhpjjjdnjaaW.PrintWords Go.Proofs.YtmmonhpjjjdnjaaW.PrintLast Go.Proofs.YtmmonhpjjjdnjaaW.PrintMore
attribute [local go_sem] zoa zqa zwa zva zia zga zra zpa
set_option linter.unusedVariables false
set_option linter.unusedSimpArgs false
def impl_SwapInPlan.l0 : Nat → Int → Int → List (S54) → Int → Int → Option ((List (S54)) × Int)
 | 0, _, _, _, _, _ => none
 | k + 1, x2, x3, x11, x37, x38 => if x38 < x37 then (if 0 ≤ x38 then (if x38 < (x11.length : Int) then (if 0 ≤ x3 then (if x3 < 14 then (if 0 ≤ x2 then (if x2 < 14 then ((some (x11.set (x38 : Int).toNat (stP (za x11 x38) x2 (rdP (za x11 x38) x3) : S54) : List (S54))).bind fun y355 => ((some (y355.set (x38 : Int).toNat (stP (za y355 x38) x3 (rdP (za x11 x38) x2) : S54) : List (S54))).bind fun y357 => (if ((za y357 x38).f3 = true) then (if (wrap64 ((za y357 x38).f2.f0)) = x2 then (impl_SwapInPlan.l0 k x2 x3 (y357.set (x38 : Int).toNat (⟨(⟨(za y357 x38).f0.f0, (za y357 x38).f0.f1, (za y357 x38).f0.f2, (za y357 x38).f0.f3, (za y357 x38).f0.f4, (za y357 x38).f0.f5, (za y357 x38).f0.f6, (za y357 x38).f0.f7, (za y357 x38).f0.f8, (za y357 x38).f0.f9, (za y357 x38).f0.f10, (za y357 x38).f0.f11, (za y357 x38).f0.f12, (za y357 x38).f0.f13⟩ : S50), (⟨(za y357 x38).f1.f0, (za y357 x38).f1.f1, (za y357 x38).f1.f2⟩ : S52), (⟨IntKind.i8.wrap (x3), (za y357 x38).f2.f1⟩ : S46), (za y357 x38).f3⟩ : S54)) x37 (wrap64 (x38 + 1))) else (if (wrap64 ((za y357 x38).f2.f0)) = x3 then (impl_SwapInPlan.l0 k x2 x3 (y357.set (x38 : Int).toNat (⟨(⟨(za y357 x38).f0.f0, (za y357 x38).f0.f1, (za y357 x38).f0.f2, (za y357 x38).f0.f3, (za y357 x38).f0.f4, (za y357 x38).f0.f5, (za y357 x38).f0.f6, (za y357 x38).f0.f7, (za y357 x38).f0.f8, (za y357 x38).f0.f9, (za y357 x38).f0.f10, (za y357 x38).f0.f11, (za y357 x38).f0.f12, (za y357 x38).f0.f13⟩ : S50), (⟨(za y357 x38).f1.f0, (za y357 x38).f1.f1, (za y357 x38).f1.f2⟩ : S52), (⟨IntKind.i8.wrap (x2), (za y357 x38).f2.f1⟩ : S46), (za y357 x38).f3⟩ : S54)) x37 (wrap64 (x38 + 1))) else (impl_SwapInPlan.l0 k x2 x3 y357 x37 (wrap64 (x38 + 1))))) else (impl_SwapInPlan.l0 k x2 x3 y357 x37 (wrap64 (x38 + 1)))))) else (none)) else (none)) else (none)) else (none)) else (none)) else (none)) else (some (x11, 0))
def impl_SwapInPlan.f (k : Nat) (a0_0 : Int) (a0_1 : Int) (a0_2 : Bool) (a0_3 : Bool) (l1 : List (S54)) (a2 : Int) (a3 : Int) : Option ((List (S54)) × Int) := (impl_ValidPlan.f k a0_0 a0_1 a0_2 a0_3 l1).bind fun t343 => (if t343 = true then ((impl_within.f a2 0 (wrap64 ((wrap64 (a0_0)) - 1))).bind fun t344 => (if t344 = true then ((impl_within.f a3 0 (wrap64 ((wrap64 (a0_0)) - 1))).bind fun t345 => (if t345 = true then ((impl_Node_36.f l1).bind fun t346 => (impl_SwapInPlan.l0 k a2 a3 t346 (t346.length : Int) 0)) else (some (([] : List (S54)), 2)))) else (some (([] : List (S54)), 2)))) else (some (([] : List (S54)), 1)))
def impl_SwapInPlan.T11 : Bool × List (List Nat × List Nat) := (true, [([], []), ([], []), ([], []), ([], []), ([], []), ([], []), ([4], [4]), ([6], [6]), ([7, 5], [5, 7]), ([8], [8]), ([], []), ([], []), ([10], [10]), ([12], [12]), ([13, 11], [11, 13]), ([14], [14]), ([0], [0]), ([16], [16]), ([17, 1, 0, 1, 4, 5, 6, 7, 8, 9, 15], [1, 17]), ([18, 9, 0, 1, 4, 5, 6, 7, 8, 9, 15], [9, 18]), ([2], [2]), ([20], [20]), ([21, 3, 0, 1, 2, 3, 4, 5, 6, 7, 8, 9, 10, 11, 12, 13, 14, 15, 16, 17, 18, 19], [3, 21]), ([22, 15, 19, 0, 1, 2, 3, 4, 5, 6, 7, 8, 9, 10, 11, 12, 13, 14, 15, 16, 17, 18, 19], [15, 22])])
def impl_SwapInPlan.B11 : List Nat := [0, 0, 0, 0, 0, 0, 16, 80, 240, 496, 0, 0, 1024, 5120, 15360, 31744, 1, 65537, 262131, 524275, 4, 1048580, 4194303, 8388607]
theorem impl_SwapInPlan.tab11 : rtab .any (zse Try.f23 11) = impl_SwapInPlan.T11 := by kernel_rfl
theorem impl_SwapInPlan.bits11 : zzb impl_SwapInPlan.T11.2 impl_SwapInPlan.B11 = true := by kernel_rfl
set_option maxHeartbeats 8000000 in
set_option maxRecDepth 100000 in
theorem impl_SwapInPlan.calls (k : Nat) (a0_0 : Int) (a0_1 : Int) (a0_2 : Bool) (a0_3 : Bool) (A1 : Option Addr) (c1 : Nat) (l1 : List (S54)) (a2 : Int) (a3 : Int) (r1 : List (S54)) (r2 : Int) (w : World) (hr1 : Kd.C k54 w A1 l1.length l1) (hc1 : l1.length ≤ c1) (h : impl_SwapInPlan.f k a0_0 a0_1 a0_2 a0_3 l1 a2 a3 = some (r1, r2)) :
  Calls Try.prog 23 #[.agg #[.int .i8 a0_0, .int .i8 a0_1, .bool a0_2, .bool a0_3], .slice A1 l1.length c1, .int .i64 a2, .int .i64 a3] w fun e w' => ∃ v0_ : Value, e = .returned (.tuple #[v0_, .int .i64 r2]) ∧ Kd.R k54 54 w' w.heap.size (fun _ => True) v0_ r1 ∧ Below w.heap.size w w' := by
 have hu29 := Try.underlying29
 have HR1 := zc.mk hr1
 have HC1 := zc.mk hc1
 clear hr1 hc1
 have HB := zc.mk (Below.refl w.heap.size w)
 have H : ((impl_ValidPlan.f k a0_0 a0_1 a0_2 a0_3 l1).bind fun t343 => (if t343 = true then ((impl_within.f a2 0 (wrap64 ((wrap64 (a0_0)) - 1))).bind fun t344 => (if t344 = true then ((impl_within.f a3 0 (wrap64 ((wrap64 (a0_0)) - 1))).bind fun t345 => (if t345 = true then ((impl_Node_36.f l1).bind fun t346 => (impl_SwapInPlan.l0 k a2 a3 t346 (t346.length : Int) 0)) else (some (([] : List (S54)), 2)))) else (some (([] : List (S54)), 2)))) else (some (([] : List (S54)), 1)))) = some (r1, r2) := h
 clear h
 replace H := Option.bind_eq_some_iff.mp H
 obtain ⟨t343, A50, H⟩ := H
 replace H : (if t343 = true then ((impl_within.f a2 0 (wrap64 ((wrap64 (a0_0)) - 1))).bind fun t344 => (if t344 = true then ((impl_within.f a3 0 (wrap64 ((wrap64 (a0_0)) - 1))).bind fun t345 => (if t345 = true then ((impl_Node_36.f l1).bind fun t346 => (impl_SwapInPlan.l0 k a2 a3 t346 (t346.length : Int) 0)) else (some (([] : List (S54)), 2)))) else (some (([] : List (S54)), 2)))) else (some (([] : List (S54)), 1))) = some (r1, r2) := H
 have A5 := zc.mk A50
 clear A50
 by_cases c6 : t343 = true
 ·subst c6
  have H1 : ((impl_within.f a2 0 (wrap64 ((wrap64 (a0_0)) - 1))).bind fun t344 => (if t344 = true then ((impl_within.f a3 0 (wrap64 ((wrap64 (a0_0)) - 1))).bind fun t345 => (if t345 = true then ((impl_Node_36.f l1).bind fun t346 => (impl_SwapInPlan.l0 k a2 a3 t346 (t346.length : Int) 0)) else (some (([] : List (S54)), 2)))) else (some (([] : List (S54)), 2)))) = some (r1, r2) := by rw [if_pos rfl] at H; exact H
  clear H
  have H := H1
  clear H1
  replace H := Option.bind_eq_some_iff.mp H
  obtain ⟨t344, A70, H⟩ := H
  replace H : (if t344 = true then ((impl_within.f a3 0 (wrap64 ((wrap64 (a0_0)) - 1))).bind fun t345 => (if t345 = true then ((impl_Node_36.f l1).bind fun t346 => (impl_SwapInPlan.l0 k a2 a3 t346 (t346.length : Int) 0)) else (some (([] : List (S54)), 2)))) else (some (([] : List (S54)), 2))) = some (r1, r2) := H
  have A7 := zc.mk A70
  clear A70
  by_cases c8 : t344 = true
  ·subst c8
   have H1 : ((impl_within.f a3 0 (wrap64 ((wrap64 (a0_0)) - 1))).bind fun t345 => (if t345 = true then ((impl_Node_36.f l1).bind fun t346 => (impl_SwapInPlan.l0 k a2 a3 t346 (t346.length : Int) 0)) else (some (([] : List (S54)), 2)))) = some (r1, r2) := by rw [if_pos rfl] at H; exact H
   clear H
   have H := H1
   clear H1
   replace H := Option.bind_eq_some_iff.mp H
   obtain ⟨t345, A90, H⟩ := H
   replace H : (if t345 = true then ((impl_Node_36.f l1).bind fun t346 => (impl_SwapInPlan.l0 k a2 a3 t346 (t346.length : Int) 0)) else (some (([] : List (S54)), 2))) = some (r1, r2) := H
   have A9 := zc.mk A90
   clear A90
   by_cases c10 : t345 = true
   ·subst c10
    have H1 : ((impl_Node_36.f l1).bind fun t346 => (impl_SwapInPlan.l0 k a2 a3 t346 (t346.length : Int) 0)) = some (r1, r2) := by rw [if_pos rfl] at H; exact H
    clear H
    have H := H1
    clear H1
    replace H := Option.bind_eq_some_iff.mp H
    obtain ⟨t346, A110, H⟩ := H
    replace H : (impl_SwapInPlan.l0 k a2 a3 t346 (t346.length : Int) 0) = some (r1, r2) := H
    have A11 := zc.mk A110
    clear A110
    have H' := zc.mk H
    clear H
    go_enter Try.func23, Try.ntmps23
    go_wp2_with (first | ((with_reducible refine zp (N := 4) rfl ?_); refine zr ?hg (N := 4) ?hd (cs := #[.int .i8 a0_0, .int .i8 a0_1, .bool a0_2, .bool a0_3]) (t := 29) ?hr ?_; (case hd => rfl); (case hg => rfl); (case hr => first | (go_simp; done) | (go_simp; rfl)); intro gb342 hg w12 hbox hb; obtain ⟨n0_, n2_⟩ := bx (by repeat (first | (with_reducible first | exact HB.out | apply ze | apply zb | apply zd) | exact HB.out)) hb hg; have n1_ := zc.mk (hbox); have n3_ := n2_; clear HB; have HB := n0_; have BK342 := n1_; have GW342 := n2_; have GE342 := n3_; clear n0_ n1_ n2_ n3_; clear hb hbox hg; obtain ⟨y1_0, y1_1, y1_2, y1_3, z1_0, z1_1, z1_2, z1_3⟩ := cf4 BK342.out) | ((with_reducible refine zo (f := 28) rfl ?_); refine zaa (some 21) rfl rfl Try.func28 (by kernel_rfl) rfl #[.agg #[.int .i8 a0_0, .int .i8 a0_1, .bool a0_2, .bool a0_3], .slice A1 l1.length c1] rfl (by (try simp only [List.map_toArray, List.map_cons, List.map_nil]); first | done | rfl | (simp only [List.length_drop, List.length_take]; rfl)) ?_; (with_reducible refine (impl_ValidPlan.calls k a0_0 a0_1 a0_2 a0_3 _ _ l1 true _ ?side1 ?side2 A5.out).mono ?_); (case side1 => repeat (first | exact (Kd.C_below HR1.out HB.out) | (with_reducible refine Kd.C_alloc ?_ _) | (with_reducible refine Kd.C_drewN ?_ _) | (with_reducible refine Kd.C_drew ?_))); (case side2 => exact HC1.out); rintro e w14 ⟨rfl, hb⟩; refine ⟨_, rfl, ?_⟩; have n0_ := zc.mk (zn (by (with_reducible repeat (first | refine zg ?_ _ | refine zi ?_ | refine zh ?_ _)); exact BK342.out) hb); have n1_ := zc.mk (zq (by repeat (first | (with_reducible first | exact HB.out | apply ze | apply zb | apply zd | refine zf ?_ GE342.out) | exact HB.out)) hb); clear BK342; clear HB; have BK342 := n0_; have HB := n1_; clear n0_ n1_; (try clear hb); (try clear hb2); (try clear hk); (try clear hi)) | ((with_reducible refine zo (f := 38) rfl ?_); refine zaa (some 26) rfl rfl Try.func38 (by kernel_rfl) rfl #[.int .i64 a2, .int .i64 0, .int .i64 (wrap64 ((wrap64 (a0_0)) - 1))] rfl (by (try simp only [List.map_toArray, List.map_cons, List.map_nil]); first | done | rfl | (simp only [List.length_drop, List.length_take]; rfl)) ?_; (with_reducible refine (impl_within.calls a2 0 (wrap64 ((wrap64 (a0_0)) - 1)) true _ A7.out).mono ?_); rintro e w' ⟨rfl, ⟨nd, rfl⟩⟩; refine ⟨_, rfl, ?_⟩) | (go_at_call 38; (with_reducible refine (impl_within.calls a3 0 (wrap64 ((wrap64 (a0_0)) - 1)) true _ A9.out).mono ?_); rintro e w' ⟨rfl, ⟨nd, rfl⟩⟩) | ((with_reducible refine zo (f := 36) rfl ?_); refine zaa (some 35) rfl rfl Try.func36 (by kernel_rfl) rfl #[.slice A1 l1.length c1] rfl (by (try simp only [List.map_toArray, List.map_cons, List.map_nil]); first | done | rfl | (simp only [List.length_drop, List.length_take]; rfl)) ?_; (with_reducible refine (impl_Node_36.calls _ _ l1 t346 _ ?side1 ?side2 A11.out).mono ?_); (case side1 => repeat (first | exact (Kd.C_below HR1.out (by repeat (first | (with_reducible first | exact HB.out | apply ze | apply zb | apply zd | refine zf ?_ GE342.out) | exact HB.out))) | (with_reducible refine Kd.C_alloc ?_ _) | (with_reducible refine Kd.C_drewN ?_ _) | (with_reducible refine Kd.C_drew ?_))); (case side2 => exact HC1.out); rintro e w15 ⟨v347, rfl, ho0, hb⟩; refine ⟨_, rfl, ?_⟩; have n0_ := zc.mk (Kd.R_lower ho0 (zz (by repeat (first | (with_reducible first | exact HB.out | apply ze | apply zb | apply zd | refine zf ?_ GE342.out) | exact HB.out)))); have n1_ := zc.mk (zn (by (with_reducible repeat (first | refine zg ?_ _ | refine zi ?_ | refine zh ?_ _)); exact BK342.out) hb); have n2_ := zc.mk (zq (by repeat (first | (with_reducible first | exact HB.out | apply ze | apply zb | apply zd | refine zf ?_ GE342.out) | exact HB.out)) hb); clear BK342; clear HB; have HO348 := n0_; have BK342 := n1_; have HB := n2_; clear n0_ n1_ n2_; (try clear hb); (try clear hb2); (try clear hk); (try clear hi); (try clear ho0); obtain ⟨Ao16, co16, eo16⟩ := Kd.R_slice HO348.out; subst eo16))
    go_loopg [38] k (fun kq v38 w' => ∃ (x11_1 : List (S54)) (x38_1 : Int), v38 = .int .i64 x38_1 ∧ zc (impl_SwapInPlan.l0 kq a2 a3 x11_1 (t346.length : Int) x38_1 = some (r1, r2)) ∧ zc (kq ≤ k) ∧ zc (Kd.R k54 54 w' w.heap.size (fun _ => True) (.slice Ao16 t346.length co16) x11_1) ∧ zc (w'.heap[gb342]? = some (.cells #[.int .i8 a0_0, .int .i8 a0_1, .bool a0_2, .bool a0_3] 29 (0, 0))) ∧ zc (Below w.heap.size w w'))
    case atStart => exact ⟨(t346), (0), (by first | rfl | (simp; done) | (simp [*]; done)), H', ⟨Nat.le_refl _⟩, ⟨by (with_reducible repeat (first | apply Kd.R_alloc | apply Kd.R_drewN | apply Kd.R_drew)); exact HO348.out⟩, ⟨by (with_reducible repeat (first | refine zg ?_ _ | refine zi ?_ | refine zh ?_ _)); exact BK342.out⟩, ⟨by repeat (first | (with_reducible first | exact HB.out | apply ze | apply zb | apply zd | refine zf ?_ GE342.out) | exact HB.out)⟩⟩
    case round =>
     clear H'
     try clear c1
     try clear c2
     try clear p2
     try clear c3
     try clear c6
     try clear p6
     try clear c8
     try clear c10
     try clear y1_0 y1_1 y1_2 y1_3
     try clear z1_0 z1_1 z1_2 z1_3
     obtain ⟨x11_1, x38_1, rfl, HA, HK1, HO_11, BK342, HB⟩ := hrel
     have hl11_1 := (Kd.R_reads' HO_11.out).1
     rw [hl11_1] at HO_11
     (try simp only [hl11_1])
     (try simp only [hl11_1] at BK342)
     cases gk with
     | zero => exact absurd HA.out (by simp [impl_SwapInPlan.l0])
     | succ k1 =>
      have H := HA.out
      clear HA
      simp only [impl_SwapInPlan.l0] at H
      by_cases c17 : x38_1 < (t346.length : Int)
      ·rw [if_pos c17] at H
       have c17b0 : decide (x38_1 < (t346.length : Int)) = true := decide_eq_true c17
       (try rw [hl11_1] at c17b0)
       clear c17
       by_cases c18 : 0 ≤ x38_1
       ·rw [if_pos c18] at H
        have c18b0 : decide (0 ≤ x38_1) = true := decide_eq_true c18
        clear c18
        by_cases c19 : x38_1 < (x11_1.length : Int)
        ·rw [if_pos c19] at H
         have c19b0 : decide (x38_1 < (x11_1.length : Int)) = true := decide_eq_true c19
         clear c19
         by_cases c20 : 0 ≤ a3
         ·rw [if_pos c20] at H
          have c20b0 : decide (0 ≤ a3) = true := decide_eq_true c20
          clear c20
          by_cases c21 : a3 < 14
          ·rw [if_pos c21] at H
           have c21b0 : decide (a3 < 14) = true := decide_eq_true c21
           clear c21
           by_cases c22 : 0 ≤ a2
           ·rw [if_pos c22] at H
            have c22b0 : decide (0 ≤ a2) = true := decide_eq_true c22
            clear c22
            by_cases c23 : a2 < 14
            ·rw [if_pos c23] at H
             have c23b0 : decide (a2 < 14) = true := decide_eq_true c23
             clear c23
             obtain ⟨y355, hy355⟩ : ∃ y_ : List (S54), y_ = (x11_1.set (x38_1 : Int).toNat (stP (za x11_1 x38_1) a2 (rdP (za x11_1 x38_1) a3) : S54)) := ⟨_, rfl⟩
             replace H : ((some (y355.set (x38_1 : Int).toNat (stP (za y355 x38_1) a3 (rdP (za x11_1 x38_1) a2) : S54) : List (S54))).bind fun y357 => (if ((za y357 x38_1).f3 = true) then (if (wrap64 ((za y357 x38_1).f2.f0)) = a2 then (impl_SwapInPlan.l0 k1 a2 a3 (y357.set (x38_1 : Int).toNat (⟨(⟨(za y357 x38_1).f0.f0, (za y357 x38_1).f0.f1, (za y357 x38_1).f0.f2, (za y357 x38_1).f0.f3, (za y357 x38_1).f0.f4, (za y357 x38_1).f0.f5, (za y357 x38_1).f0.f6, (za y357 x38_1).f0.f7, (za y357 x38_1).f0.f8, (za y357 x38_1).f0.f9, (za y357 x38_1).f0.f10, (za y357 x38_1).f0.f11, (za y357 x38_1).f0.f12, (za y357 x38_1).f0.f13⟩ : S50), (⟨(za y357 x38_1).f1.f0, (za y357 x38_1).f1.f1, (za y357 x38_1).f1.f2⟩ : S52), (⟨IntKind.i8.wrap (a3), (za y357 x38_1).f2.f1⟩ : S46), (za y357 x38_1).f3⟩ : S54)) (t346.length : Int) (wrap64 (x38_1 + 1))) else (if (wrap64 ((za y357 x38_1).f2.f0)) = a3 then (impl_SwapInPlan.l0 k1 a2 a3 (y357.set (x38_1 : Int).toNat (⟨(⟨(za y357 x38_1).f0.f0, (za y357 x38_1).f0.f1, (za y357 x38_1).f0.f2, (za y357 x38_1).f0.f3, (za y357 x38_1).f0.f4, (za y357 x38_1).f0.f5, (za y357 x38_1).f0.f6, (za y357 x38_1).f0.f7, (za y357 x38_1).f0.f8, (za y357 x38_1).f0.f9, (za y357 x38_1).f0.f10, (za y357 x38_1).f0.f11, (za y357 x38_1).f0.f12, (za y357 x38_1).f0.f13⟩ : S50), (⟨(za y357 x38_1).f1.f0, (za y357 x38_1).f1.f1, (za y357 x38_1).f1.f2⟩ : S52), (⟨IntKind.i8.wrap (a2), (za y357 x38_1).f2.f1⟩ : S46), (za y357 x38_1).f3⟩ : S54)) (t346.length : Int) (wrap64 (x38_1 + 1))) else (impl_SwapInPlan.l0 k1 a2 a3 y357 (t346.length : Int) (wrap64 (x38_1 + 1))))) else (impl_SwapInPlan.l0 k1 a2 a3 y357 (t346.length : Int) (wrap64 (x38_1 + 1))))) = some (r1, r2) := by first | (rw [hy355]; with_reducible exact H) | (have H2_ := (Option.bind_some _ _).symm.trans H; rw [hy355]; with_reducible exact H2_) | (have H2_ := (Option.bind_some _ _).symm.trans H; with_reducible exact H2_) | with_reducible exact H | (rw [hy355]; exact H) | exact H
             have Ny355 := zc.mk hy355
             clear hy355
             obtain ⟨y357, hy357⟩ : ∃ y_ : List (S54), y_ = (y355.set (x38_1 : Int).toNat (stP (za y355 x38_1) a3 (rdP (za x11_1 x38_1) a2) : S54)) := ⟨_, rfl⟩
             replace H : (if ((za y357 x38_1).f3 = true) then (if (wrap64 ((za y357 x38_1).f2.f0)) = a2 then (impl_SwapInPlan.l0 k1 a2 a3 (y357.set (x38_1 : Int).toNat (⟨(⟨(za y357 x38_1).f0.f0, (za y357 x38_1).f0.f1, (za y357 x38_1).f0.f2, (za y357 x38_1).f0.f3, (za y357 x38_1).f0.f4, (za y357 x38_1).f0.f5, (za y357 x38_1).f0.f6, (za y357 x38_1).f0.f7, (za y357 x38_1).f0.f8, (za y357 x38_1).f0.f9, (za y357 x38_1).f0.f10, (za y357 x38_1).f0.f11, (za y357 x38_1).f0.f12, (za y357 x38_1).f0.f13⟩ : S50), (⟨(za y357 x38_1).f1.f0, (za y357 x38_1).f1.f1, (za y357 x38_1).f1.f2⟩ : S52), (⟨IntKind.i8.wrap (a3), (za y357 x38_1).f2.f1⟩ : S46), (za y357 x38_1).f3⟩ : S54)) (t346.length : Int) (wrap64 (x38_1 + 1))) else (if (wrap64 ((za y357 x38_1).f2.f0)) = a3 then (impl_SwapInPlan.l0 k1 a2 a3 (y357.set (x38_1 : Int).toNat (⟨(⟨(za y357 x38_1).f0.f0, (za y357 x38_1).f0.f1, (za y357 x38_1).f0.f2, (za y357 x38_1).f0.f3, (za y357 x38_1).f0.f4, (za y357 x38_1).f0.f5, (za y357 x38_1).f0.f6, (za y357 x38_1).f0.f7, (za y357 x38_1).f0.f8, (za y357 x38_1).f0.f9, (za y357 x38_1).f0.f10, (za y357 x38_1).f0.f11, (za y357 x38_1).f0.f12, (za y357 x38_1).f0.f13⟩ : S50), (⟨(za y357 x38_1).f1.f0, (za y357 x38_1).f1.f1, (za y357 x38_1).f1.f2⟩ : S52), (⟨IntKind.i8.wrap (a2), (za y357 x38_1).f2.f1⟩ : S46), (za y357 x38_1).f3⟩ : S54)) (t346.length : Int) (wrap64 (x38_1 + 1))) else (impl_SwapInPlan.l0 k1 a2 a3 y357 (t346.length : Int) (wrap64 (x38_1 + 1))))) else (impl_SwapInPlan.l0 k1 a2 a3 y357 (t346.length : Int) (wrap64 (x38_1 + 1)))) = some (r1, r2) := by first | (rw [hy357]; with_reducible exact H) | (have H2_ := (Option.bind_some _ _).symm.trans H; rw [hy357]; with_reducible exact H2_) | (have H2_ := (Option.bind_some _ _).symm.trans H; with_reducible exact H2_) | with_reducible exact H | (rw [hy357]; exact H) | exact H
             have Ny357 := zc.mk hy357
             clear hy357
             obtain ⟨bq26, hbq26⟩ : ∃ b_ : Bool, b_ = ((za y357 x38_1).f3) := ⟨_, rfl⟩
             replace H : (if (bq26 = true) then (if (wrap64 ((za y357 x38_1).f2.f0)) = a2 then (impl_SwapInPlan.l0 k1 a2 a3 (y357.set (x38_1 : Int).toNat (⟨(⟨(za y357 x38_1).f0.f0, (za y357 x38_1).f0.f1, (za y357 x38_1).f0.f2, (za y357 x38_1).f0.f3, (za y357 x38_1).f0.f4, (za y357 x38_1).f0.f5, (za y357 x38_1).f0.f6, (za y357 x38_1).f0.f7, (za y357 x38_1).f0.f8, (za y357 x38_1).f0.f9, (za y357 x38_1).f0.f10, (za y357 x38_1).f0.f11, (za y357 x38_1).f0.f12, (za y357 x38_1).f0.f13⟩ : S50), (⟨(za y357 x38_1).f1.f0, (za y357 x38_1).f1.f1, (za y357 x38_1).f1.f2⟩ : S52), (⟨IntKind.i8.wrap (a3), (za y357 x38_1).f2.f1⟩ : S46), bq26⟩ : S54)) (t346.length : Int) (wrap64 (x38_1 + 1))) else (if (wrap64 ((za y357 x38_1).f2.f0)) = a3 then (impl_SwapInPlan.l0 k1 a2 a3 (y357.set (x38_1 : Int).toNat (⟨(⟨(za y357 x38_1).f0.f0, (za y357 x38_1).f0.f1, (za y357 x38_1).f0.f2, (za y357 x38_1).f0.f3, (za y357 x38_1).f0.f4, (za y357 x38_1).f0.f5, (za y357 x38_1).f0.f6, (za y357 x38_1).f0.f7, (za y357 x38_1).f0.f8, (za y357 x38_1).f0.f9, (za y357 x38_1).f0.f10, (za y357 x38_1).f0.f11, (za y357 x38_1).f0.f12, (za y357 x38_1).f0.f13⟩ : S50), (⟨(za y357 x38_1).f1.f0, (za y357 x38_1).f1.f1, (za y357 x38_1).f1.f2⟩ : S52), (⟨IntKind.i8.wrap (a2), (za y357 x38_1).f2.f1⟩ : S46), bq26⟩ : S54)) (t346.length : Int) (wrap64 (x38_1 + 1))) else (impl_SwapInPlan.l0 k1 a2 a3 y357 (t346.length : Int) (wrap64 (x38_1 + 1))))) else (impl_SwapInPlan.l0 k1 a2 a3 y357 (t346.length : Int) (wrap64 (x38_1 + 1)))) = some (r1, r2) := by rw [← hbq26] at H; exact H
             have Nbq26 := zc.mk hbq26
             clear hbq26
             by_cases c27 : (bq26 = true)
             ·subst c27
              have H1 : (if (wrap64 ((za y357 x38_1).f2.f0)) = a2 then (impl_SwapInPlan.l0 k1 a2 a3 (y357.set (x38_1 : Int).toNat (⟨(⟨(za y357 x38_1).f0.f0, (za y357 x38_1).f0.f1, (za y357 x38_1).f0.f2, (za y357 x38_1).f0.f3, (za y357 x38_1).f0.f4, (za y357 x38_1).f0.f5, (za y357 x38_1).f0.f6, (za y357 x38_1).f0.f7, (za y357 x38_1).f0.f8, (za y357 x38_1).f0.f9, (za y357 x38_1).f0.f10, (za y357 x38_1).f0.f11, (za y357 x38_1).f0.f12, (za y357 x38_1).f0.f13⟩ : S50), (⟨(za y357 x38_1).f1.f0, (za y357 x38_1).f1.f1, (za y357 x38_1).f1.f2⟩ : S52), (⟨IntKind.i8.wrap (a3), (za y357 x38_1).f2.f1⟩ : S46), true⟩ : S54)) (t346.length : Int) (wrap64 (x38_1 + 1))) else (if (wrap64 ((za y357 x38_1).f2.f0)) = a3 then (impl_SwapInPlan.l0 k1 a2 a3 (y357.set (x38_1 : Int).toNat (⟨(⟨(za y357 x38_1).f0.f0, (za y357 x38_1).f0.f1, (za y357 x38_1).f0.f2, (za y357 x38_1).f0.f3, (za y357 x38_1).f0.f4, (za y357 x38_1).f0.f5, (za y357 x38_1).f0.f6, (za y357 x38_1).f0.f7, (za y357 x38_1).f0.f8, (za y357 x38_1).f0.f9, (za y357 x38_1).f0.f10, (za y357 x38_1).f0.f11, (za y357 x38_1).f0.f12, (za y357 x38_1).f0.f13⟩ : S50), (⟨(za y357 x38_1).f1.f0, (za y357 x38_1).f1.f1, (za y357 x38_1).f1.f2⟩ : S52), (⟨IntKind.i8.wrap (a2), (za y357 x38_1).f2.f1⟩ : S46), true⟩ : S54)) (t346.length : Int) (wrap64 (x38_1 + 1))) else (impl_SwapInPlan.l0 k1 a2 a3 y357 (t346.length : Int) (wrap64 (x38_1 + 1))))) = some (r1, r2) := by rw [if_pos rfl] at H; exact H
              clear H
              have H := H1
              clear H1
              by_cases c28 : (wrap64 ((za y357 x38_1).f2.f0)) = a2
              ·rw [if_pos c28] at H
               have c28b0 : ((wrap64 ((za y357 x38_1).f2.f0)) == a2) = true := beq_iff_eq.mpr c28
               have c28b1 : ((wrap64 ((za y357 x38_1).f2.f0)) != a2) = false := bne_eq_false_iff_eq.mpr c28
               (try (have c28b2 : ((IntKind.i64.wrap ((za y357 x38_1).f2.f0)) == a2) = true := by have h_ : ((wrap64 ((za y357 x38_1).f2.f0)) == a2) = true := beq_iff_eq.mpr c28; simpa only [zm, zl] using h_))
               (try (have c28b3 : ((IntKind.i64.wrap ((za y357 x38_1).f2.f0)) != a2) = false := by have h_ : ((wrap64 ((za y357 x38_1).f2.f0)) != a2) = false := bne_eq_false_iff_eq.mpr c28; simpa only [zm, zl] using h_))
               clear c28
               obtain ⟨y360, hy360⟩ : ∃ y_ : List (S54), y_ = (y357.set (x38_1 : Int).toNat (⟨(⟨(za y357 x38_1).f0.f0, (za y357 x38_1).f0.f1, (za y357 x38_1).f0.f2, (za y357 x38_1).f0.f3, (za y357 x38_1).f0.f4, (za y357 x38_1).f0.f5, (za y357 x38_1).f0.f6, (za y357 x38_1).f0.f7, (za y357 x38_1).f0.f8, (za y357 x38_1).f0.f9, (za y357 x38_1).f0.f10, (za y357 x38_1).f0.f11, (za y357 x38_1).f0.f12, (za y357 x38_1).f0.f13⟩ : S50), (⟨(za y357 x38_1).f1.f0, (za y357 x38_1).f1.f1, (za y357 x38_1).f1.f2⟩ : S52), (⟨IntKind.i8.wrap (a3), (za y357 x38_1).f2.f1⟩ : S46), true⟩ : S54)) := ⟨_, rfl⟩
               replace H : (impl_SwapInPlan.l0 k1 a2 a3 y360 (t346.length : Int) (wrap64 (x38_1 + 1))) = some (r1, r2) := by first | (rw [hy360]; with_reducible exact H) | (have H2_ := (Option.bind_some _ _).symm.trans H; rw [hy360]; with_reducible exact H2_) | (have H2_ := (Option.bind_some _ _).symm.trans H; with_reducible exact H2_) | with_reducible exact H | (rw [hy360]; exact H) | exact H
               have Ny360 := zc.mk hy360
               clear hy360
               have H' := zc.mk H
               clear H
               have p349 : 0 ≤ (x38_1 : Int) := od (by first | (with_reducible assumption) | assumption)
               have q349 : x38_1 < (x11_1.length : Int) := od (by first | (with_reducible assumption) | assumption)
               obtain ⟨ad349, e349, u1_0, u1_1, u1_2, u1_3, u1_4, u1_5, u1_6, u1_7, u1_8, u1_9, u1_10, u1_11, u1_12, u1_13, u1_14, u1_15, u1_16, u1_17, u1_18, u1_19⟩ := zta (Kd.R_reads' HO_11.out).2.2 x38_1 p349 q349
               (try rw [← Nbq26.out] at u1_18)
               (try rw [← Nbq26.out] at u1_19)
               cases e349
               replace p349 := eq_true p349
               replace q349 := eq_true q349
               try go_wp2
               have n0_ := zc.mk (Kd.R_drew HO_11.out)
               have n1_ := zc.mk (zi BK342.out)
               have n2_ := zc.mk (zd HB.out)
               clear HO_11
               clear BK342
               clear HB
               have HO_11 := n0_
               have BK342 := n1_
               have HB := n2_
               clear n0_ n1_ n2_
               have p350 : 0 ≤ (x38_1 : Int) := od (by first | (with_reducible assumption) | assumption)
               have q350 : x38_1 < (x11_1.length : Int) := od (by first | (with_reducible assumption) | assumption)
               obtain ⟨ad350, e350, u2_0, u2_1, u2_2, u2_3, u2_4, u2_5, u2_6, u2_7, u2_8, u2_9, u2_10, u2_11, u2_12, u2_13, u2_14, u2_15, u2_16, u2_17, u2_18, u2_19⟩ := zta (Kd.R_reads' HO_11.out).2.2 x38_1 p350 q350
               (try rw [← Nbq26.out] at u2_18)
               (try rw [← Nbq26.out] at u2_19)
               obtain rfl : ad349 = ad350 := (by injection e350)
               replace p350 := eq_true p350
               replace q350 := eq_true q350
               have pf32 : 0 ≤ (x38_1 : Int) := od (by first | (with_reducible assumption) | assumption)
               have qf32 : (x38_1 : Int) < ((x11_1.length : Int) : Int) := od (by first | (with_reducible assumption) | assumption)
               obtain ⟨go33, co33, eo33, gb33, gl33, cl33, HG33⟩ := Kd.R_form HO_11.out (by omega)
               (first | cases eo33 | (injection eo33 with ea_ en_ ec_; (first | subst ea_ | (injection ea_ with ea_; subst ea_)); subst ec_; clear en_))
               have GB33 := zc.mk gb33
               have GG33 := zc.mk HG33
               clear gb33 gl33 HG33
               (first | simp only [zha] at u1_0 u1_1 u1_2 u1_3 u1_4 u1_5 u1_6 u1_7 u1_8 u1_9 u1_10 u1_11 u1_12 u1_13 u1_14 u1_15 u1_16 u1_17 u1_18 u1_19 | skip)
               (first | simp only [zha] at u2_0 u2_1 u2_2 u2_3 u2_4 u2_5 u2_6 u2_7 u2_8 u2_9 u2_10 u2_11 u2_12 u2_13 u2_14 u2_15 u2_16 u2_17 u2_18 u2_19 | skip)
               clear pf32 qf32
               have u3_0 := ztb (a := fun z_ : Int => ⟨go33, ((x38_1).toNat * 20) + z_.toNat, none⟩) (j := a3) (od (by first | (with_reducible assumption) | assumption)) (od (by first | (with_reducible assumption) | assumption)) u2_0 u2_1 u2_2 u2_3 u2_4 u2_5 u2_6 u2_7 u2_8 u2_9 u2_10 u2_11 u2_12 u2_13
               (try dsimp only at u3_0)
               have p31 : 0 ≤ (a3 : Int) := od (by first | (with_reducible assumption) | assumption)
               have q31 : a3 < (14 : Int) := od (by first | (with_reducible assumption) | assumption)
               replace p31 := eq_true p31
               replace q31 := eq_true q31
               have p352 : 0 ≤ (x38_1 : Int) := od (by first | (with_reducible assumption) | assumption)
               have q352 : x38_1 < (x11_1.length : Int) := od (by first | (with_reducible assumption) | assumption)
               obtain ⟨ad352, e352, u4_0, u4_1, u4_2, u4_3, u4_4, u4_5, u4_6, u4_7, u4_8, u4_9, u4_10, u4_11, u4_12, u4_13, u4_14, u4_15, u4_16, u4_17, u4_18, u4_19⟩ := zta (Kd.R_reads' HO_11.out).2.2 x38_1 p352 q352
               (try rw [← Nbq26.out] at u4_18)
               (try rw [← Nbq26.out] at u4_19)
               obtain rfl : (⟨go33, 0, none⟩ : Addr) = ad352 := (by injection e352)
               (first | simp only [zha] at u4_0 u4_1 u4_2 u4_3 u4_4 u4_5 u4_6 u4_7 u4_8 u4_9 u4_10 u4_11 u4_12 u4_13 u4_14 u4_15 u4_16 u4_17 u4_18 u4_19 | simp only [zrb] at u4_0 u4_1 u4_2 u4_3 u4_4 u4_5 u4_6 u4_7 u4_8 u4_9 u4_10 u4_11 u4_12 u4_13 u4_14 u4_15 u4_16 u4_17 u4_18 u4_19 | simp only [Addr.add, Nat.zero_add] at u4_0 u4_1 u4_2 u4_3 u4_4 u4_5 u4_6 u4_7 u4_8 u4_9 u4_10 u4_11 u4_12 u4_13 u4_14 u4_15 u4_16 u4_17 u4_18 u4_19 | skip)
               replace p352 := eq_true p352
               replace q352 := eq_true q352
               have u5_0 := ztb (a := fun z_ : Int => ⟨go33, ((x38_1).toNat * 20) + z_.toNat, none⟩) (j := a2) (od (by first | (with_reducible assumption) | assumption)) (od (by first | (with_reducible assumption) | assumption)) u4_0 u4_1 u4_2 u4_3 u4_4 u4_5 u4_6 u4_7 u4_8 u4_9 u4_10 u4_11 u4_12 u4_13
               (try dsimp only at u5_0)
               have p34 : 0 ≤ (a2 : Int) := od (by first | (with_reducible assumption) | assumption)
               have q34 : a2 < (14 : Int) := od (by first | (with_reducible assumption) | assumption)
               replace p34 := eq_true p34
               replace q34 := eq_true q34
               have p24 : 0 ≤ (x38_1 : Int) := od (by first | (with_reducible assumption) | assumption)
               have q24 : (x38_1 : Int) < ((x11_1.length : Int) : Int) := od (by first | (with_reducible assumption) | assumption)
               obtain ⟨ce24, hcl24, hM24, hcc24, hfr24⟩ := Kd.R_elem HO_11.out z54 (x38_1 : Int) p24 q24
               obtain rfl := zw hM24
               obtain ⟨u6_0, u6_1, u6_2, u6_3, u6_4, u6_5, u6_6, u6_7, u6_8, u6_9, u6_10, u6_11, u6_12, u6_13, u6_14, u6_15, u6_16, u6_17, u6_18, u6_19⟩ := rx20 (g := go33) (b := (x38_1 : Int).toNat * 20) hcc24
               obtain ⟨t1_0, t1_1, t1_2, t1_3, t1_4, t1_5, t1_6, t1_7, t1_8, t1_9, t1_10, t1_11, t1_12, t1_13, t1_14, t1_15, t1_16, t1_17, t1_18, t1_19⟩ := rf20 (g := go33) (b := (x38_1 : Int).toNat * 20) hfr24
               clear hcl24 hcc24 hfr24 hM24
               replace p24 := eq_true p24
               replace q24 := eq_true q24
               have u7_0 := ztb (a := fun z_ : Int => ⟨go33, (x38_1 : Int).toNat * 20 + z_.toNat, none⟩) (j := a2) (od (by first | (with_reducible assumption) | assumption)) (od (by first | (with_reducible assumption) | assumption)) u6_0 u6_1 u6_2 u6_3 u6_4 u6_5 u6_6 u6_7 u6_8 u6_9 u6_10 u6_11 u6_12 u6_13
               (try dsimp only at u7_0)
               have t2_0 := zhc (a := fun z_ : Int => ⟨go33, (x38_1 : Int).toNat * 20 + z_.toNat, none⟩) (j := a2) (od (by first | (with_reducible assumption) | assumption)) (od (by first | (with_reducible assumption) | assumption)) t1_0 t1_1 t1_2 t1_3 t1_4 t1_5 t1_6 t1_7 t1_8 t1_9 t1_10 t1_11 t1_12 t1_13
               (try dsimp only at t2_0)
               have p35 : 0 ≤ (a2 : Int) := od (by first | (with_reducible assumption) | assumption)
               have q35 : a2 < (14 : Int) := od (by first | (with_reducible assumption) | assumption)
               replace p35 := eq_true p35
               replace q35 := eq_true q35
               obtain ⟨ce36, hcl36, hM36, hcc36, hfr36⟩ := Kd.R_elem HO_11.out z54 (x38_1 : Int) (od (by first | (with_reducible assumption) | assumption)) (by have h_ : (x38_1 : Int) < ((x11_1.length : Int) : Int) := od (by first | (with_reducible assumption) | assumption); first | exact h_ | (have e_ := (Kd.R_reads' HO_11.out).1; omega) | simpa using h_)
               obtain rfl := zw hM36
               have HP36 := (Kd.R_seg HO_11.out (x38_1 : Int) (od (by first | (with_reducible assumption) | assumption)) (by have h_ : (x38_1 : Int) < ((x11_1.length : Int) : Int) := od (by first | (with_reducible assumption) | assumption); first | exact h_ | (have e_ := (Kd.R_reads' HO_11.out).1; omega) | simpa using h_) (seg := [.int .i8 (rdP (za x11_1 x38_1) a3)]) (j := (a2).toNat) hcl36 hcc36 (show (a2).toNat + 1 ≤ 20 from by have hp_ : 0 ≤ (a2 : Int) := od (by first | (with_reducible assumption) | assumption); have hq_ : a2 < (14 : Int) := od (by first | (with_reducible assumption) | assumption); omega) (x' := (stP (za x11_1 x38_1) a2 (rdP (za x11_1 x38_1) a3) : S54)) (by rcases (is14 (j := a2) (od (by first | (with_reducible assumption) | assumption)) (od (by first | (with_reducible assumption) | assumption))) with h_ | h_ | h_ | h_ | h_ | h_ | h_ | h_ | h_ | h_ | h_ | h_ | h_ | h_ <;> rw [h_] <;> first | exact zea _ _ _ _ | (have e_ := Nbq26.out; unfold za at e_; rw [← e_]; exact zea _ _ _ _)) (fun _ hk => hk)).1
               rw [← Ny355.out] at HP36
               have HQ36 := zc.mk HP36
               clear hcl36 hcc36 hfr36 hM36 HP36
               have p25 : 0 ≤ (x38_1 : Int) := od (by first | (with_reducible assumption) | assumption)
               have q25 : (x38_1 : Int) < ((x11_1.length : Int) : Int) := od (by first | (with_reducible assumption) | assumption)
               replace p25 := eq_true p25
               replace q25 := eq_true q25
               have u8_0 := ztb (a := fun z_ : Int => ⟨go33, (x38_1 : Int).toNat * 20 + z_.toNat, none⟩) (j := a3) (od (by first | (with_reducible assumption) | assumption)) (od (by first | (with_reducible assumption) | assumption)) u6_0 u6_1 u6_2 u6_3 u6_4 u6_5 u6_6 u6_7 u6_8 u6_9 u6_10 u6_11 u6_12 u6_13
               (try dsimp only at u8_0)
               have t3_0 := zhc (a := fun z_ : Int => ⟨go33, (x38_1 : Int).toNat * 20 + z_.toNat, none⟩) (j := a3) (od (by first | (with_reducible assumption) | assumption)) (od (by first | (with_reducible assumption) | assumption)) t1_0 t1_1 t1_2 t1_3 t1_4 t1_5 t1_6 t1_7 t1_8 t1_9 t1_10 t1_11 t1_12 t1_13
               (try dsimp only at t3_0)
               have p37 : 0 ≤ (a3 : Int) := od (by first | (with_reducible assumption) | assumption)
               have q37 : a3 < (14 : Int) := od (by first | (with_reducible assumption) | assumption)
               replace p37 := eq_true p37
               replace q37 := eq_true q37
               obtain ⟨ce38, hcl38, hM38, hcc38, hfr38⟩ := Kd.R_elem HQ36.out z54 (x38_1 : Int) (od (by first | (with_reducible assumption) | assumption)) (by have h_ : (x38_1 : Int) < ((x11_1.length : Int) : Int) := od (by first | (with_reducible assumption) | assumption); first | exact h_ | (have e_ := (Kd.R_reads' HO_11.out).1; omega) | simpa using h_)
               obtain rfl := zw hM38
               have HP38 := (Kd.R_seg HQ36.out (x38_1 : Int) (od (by first | (with_reducible assumption) | assumption)) (by have h_ : (x38_1 : Int) < ((x11_1.length : Int) : Int) := od (by first | (with_reducible assumption) | assumption); first | exact h_ | (have e_ := (Kd.R_reads' HO_11.out).1; omega) | simpa using h_) (seg := [.int .i8 (rdP (za x11_1 x38_1) a2)]) (j := (a3).toNat) hcl38 hcc38 (show (a3).toNat + 1 ≤ 20 from by have hp_ : 0 ≤ (a3 : Int) := od (by first | (with_reducible assumption) | assumption); have hq_ : a3 < (14 : Int) := od (by first | (with_reducible assumption) | assumption); omega) (x' := (stP (za y355 x38_1) a3 (rdP (za x11_1 x38_1) a2) : S54)) (by rcases (is14 (j := a3) (od (by first | (with_reducible assumption) | assumption)) (od (by first | (with_reducible assumption) | assumption))) with h_ | h_ | h_ | h_ | h_ | h_ | h_ | h_ | h_ | h_ | h_ | h_ | h_ | h_ <;> rw [h_] <;> first | exact zea _ _ _ _ | (have e_ := Nbq26.out; unfold za at e_; rw [← e_]; exact zea _ _ _ _)) (fun _ hk => hk)).1
               rw [← Ny357.out] at HP38
               have HQ38 := zc.mk HP38
               clear hcl38 hcc38 hfr38 hM38 HP38
               refine zjb (n := 24) (S := fun w' => EB w' go33 ((x38_1).toNat * 20) (za x11_1 x38_1) ((za x11_1 x38_1).f2.f1) ((za x11_1 x38_1).f3) (w'.cell? ⟨go33, ((x38_1).toNat * 20) + (a3).toNat, none⟩ = some (.int .i8 (rdP (za x11_1 x38_1) a3)) ∧ EB w' go33 ((x38_1).toNat * 20) (za x11_1 x38_1) ((za x11_1 x38_1).f2.f1) ((za x11_1 x38_1).f3) (w'.cell? ⟨go33, ((x38_1).toNat * 20) + (a2).toNat, none⟩ = some (.int .i8 (rdP (za x11_1 x38_1) a2))))) (ds := [19, 23]) (fm 24 0) (by kernel_rfl) rfl rfl ⟨u2_0, u2_1, u2_2, u2_3, u2_4, u2_5, u2_6, u2_7, u2_8, u2_9, u2_10, u2_11, u2_12, u2_13, u2_14, u2_15, u2_16, u2_17, u2_18, u2_19, u3_0, u4_0, u4_1, u4_2, u4_3, u4_4, u4_5, u4_6, u4_7, u4_8, u4_9, u4_10, u4_11, u4_12, u4_13, u4_14, u4_15, u4_16, u4_17, u4_18, u4_19, u5_0⟩ (fun hHeld => ?_); refine zsa impl_SwapInPlan.tab11 impl_SwapInPlan.bits11 (fun HT_ HW_ => ?_)
               generalize wr.drew = w30 at HO_11 BK342 HB GG33 HQ36 HQ38 t1_0 t1_1 t1_10 t1_11 t1_12 t1_13 t1_14 t1_15 t1_16 t1_17 t1_18 t1_19 t1_2 t1_3 t1_4 t1_5 t1_6 t1_7 t1_8 t1_9 t2_0 t3_0 u6_0 u6_1 u6_10 u6_11 u6_12 u6_13 u6_14 u6_15 u6_16 u6_17 u6_18 u6_19 u6_2 u6_3 u6_4 u6_5 u6_6 u6_7 u6_8 u6_9 u3_0 u1_0 u1_1 u1_10 u1_11 u1_12 u1_13 u1_14 u1_15 u1_16 u1_17 u1_18 u1_19 u1_2 u1_3 u1_4 u1_5 u1_6 u1_7 u1_8 u1_9 u5_0 u2_0 u2_1 u2_10 u2_11 u2_12 u2_13 u2_14 u2_15 u2_16 u2_17 u2_18 u2_19 u2_2 u2_3 u2_4 u2_5 u2_6 u2_7 u2_8 u2_9 u4_0 u4_1 u4_10 u4_11 u4_12 u4_13 u4_14 u4_15 u4_16 u4_17 u4_18 u4_19 u4_2 u4_3 u4_4 u4_5 u4_6 u4_7 u4_8 u4_9 u7_0 u8_0 hHeld ⊢
               refine pb 0 44 (fm 24 1) rfl rfl HT_.out (by kernel_rfl) pq (by rfl) (by intro w'; go_simp; with_reducible rfl) (by simp only [Act.put, ea, eb, ec, zm, zl]; rfl) ?_
               refine pb 1 45 (fm 24 2) rfl rfl HT_.out (by kernel_rfl) pq (by rfl) (by intro w'; go_simp; with_reducible rfl) (by simp only [Act.put, ea, eb, ec, zm, zl]; rfl) ?_
               refine pb 2 46 (fm 24 3) rfl rfl HT_.out (by kernel_rfl) pq (by rfl) (by intro w'; go_simp; with_reducible rfl) (by simp only [Act.put, ea, eb, ec, zm, zl]; rfl) ?_
               refine pb 3 47 (fm 24 4) rfl rfl HT_.out (by kernel_rfl) pq (by rfl) (by intro w'; go_simp; with_reducible rfl) (by simp only [Act.put, ea, eb, ec, zm, zl]; rfl) ?_
               refine pb 4 48 (fm 24 5) rfl rfl HT_.out (by kernel_rfl) pq (by rfl) (by intro w'; go_simp; with_reducible rfl) (by simp only [Act.put, ea, eb, ec, zm, zl]; rfl) ?_
               refine pb 5 49 (fm 24 6) rfl rfl HT_.out (by kernel_rfl) pq (by rfl) (by intro w'; go_simp; with_reducible rfl) (by simp only [Act.put, ea, eb, ec, zm, zl]; rfl) ?_
               refine pb 6 50 (fm 24 7) rfl rfl HT_.out (by kernel_rfl) pq (by rfl) (by intro w'; go_simp; with_reducible rfl) (by simp only [Act.put, ea, eb, ec, zm, zl]; rfl) ?_
               refine pb 7 51 (fm 24 8) rfl rfl HT_.out (by kernel_rfl) pq (by rfl) (by intro w'; go_simp; with_reducible rfl) (by simp only [Act.put, ea, eb, ec, zm, zl]; rfl) ?_
               refine pb 8 52 (fm 24 9) rfl rfl HT_.out (by kernel_rfl) pq (by rfl) (by intro w'; go_simp; with_reducible rfl) (by simp only [Act.put, ea, eb, ec, zm, zl]; rfl) ?_
               refine pb 10 54 #[T, T, T, T, T, T, T, T, T, F, T, F, F, F, F, F, F, F, F, F, F, F, F, F] rfl rfl HT_.out (by kernel_rfl) pq (by rfl) (by intro w'; go_simp; with_reducible rfl) (by simp only [Act.put, ea, eb, ec, zm, zl]; rfl) ?_
               refine pb 11 55 #[T, T, T, T, T, T, T, T, T, F, T, T, F, F, F, F, F, F, F, F, F, F, F, F] rfl rfl HT_.out (by kernel_rfl) pq (by rfl) (by intro w'; go_simp; with_reducible rfl) (by simp only [Act.put, ea, eb, ec, zm, zl]; rfl) ?_
               refine pb 12 56 #[T, T, T, T, T, T, T, T, T, F, T, T, T, F, F, F, F, F, F, F, F, F, F, F] rfl rfl HT_.out (by kernel_rfl) pq (by rfl) (by intro w'; go_simp; with_reducible rfl) (by simp only [Act.put, ea, eb, ec, zm, zl]; rfl) ?_
               refine pb 13 57 #[T, T, T, T, T, T, T, T, T, F, T, T, T, T, F, F, F, F, F, F, F, F, F, F] rfl rfl HT_.out (by kernel_rfl) pq (by rfl) (by intro w'; go_simp; with_reducible rfl) (by simp only [Act.put, ea, eb, ec, zm, zl]; rfl) ?_
               refine pb 14 58 #[T, T, T, T, T, T, T, T, T, F, T, T, T, T, T, F, F, F, F, F, F, F, F, F] rfl rfl HT_.out (by kernel_rfl) pq (by rfl) (by intro w'; go_simp; with_reducible rfl) (by simp only [Act.put, ea, eb, ec, zm, zl]; rfl) ?_
               refine pb 16 60 #[T, T, T, T, T, T, T, T, T, F, T, T, T, T, T, F, T, F, F, F, F, F, F, F] rfl rfl HT_.out (by kernel_rfl) pq (by rfl) (by intro w'; go_simp; with_reducible rfl) (by simp only [Act.put, ea, eb, ec, zm, zl]; rfl) ?_
               refine pb 17 61 #[T, T, T, T, T, T, T, T, T, F, T, T, T, T, T, F, T, T, F, F, F, F, F, F] rfl rfl HT_.out (by kernel_rfl) pq (by rfl) (by intro w'; go_simp; with_reducible rfl) (by simp only [Act.put, ea, eb, ec, zm, zl]; rfl) ?_
               refine pb 20 63 #[T, T, T, T, T, T, T, T, T, F, T, T, T, T, T, F, T, T, F, F, T, F, F, F] rfl rfl HT_.out (by kernel_rfl) pq (by rfl) (by intro w'; go_simp; with_reducible rfl) (by simp only [Act.put, ea, eb, ec, zm, zl]; rfl) ?_
               refine pb 21 64 #[T, T, T, T, T, T, T, T, T, F, T, T, T, T, T, F, T, T, F, F, T, T, F, F] rfl rfl HT_.out (by kernel_rfl) pq (by rfl) (by intro w'; go_simp; with_reducible rfl) (by simp only [Act.put, ea, eb, ec, zm, zl]; rfl) ?_
               refine take_ (i := 9) (N := some 53) (v := ?_) (a' := ?_) #[T, T, T, T, T, T, T, T, T, T, T, T, T, T, T, F, T, T, F, F, T, T, F, F] rfl rfl (zca HT_.out HW_.out (by kernel_rfl)) (fun _ _ _ h => h) (Or.inl ⟨by rfl, ?_⟩) hHeld ?_ ?_
               rotate_left
               ·rintro w' ⟨s0, s1, s2, s3, s4, s5, s6, s7, s8, s9, s10, s11, s12, s13, s14, s15, s16, s17, s18, s19, s20, s21, s22, s23, s24, s25, s26, s27, s28, s29, s30, s31, s32, s33, s34, s35, s36, s37, s38, s39, s40, s41⟩
                go_simp
                with_reducible rfl
               rotate_left
               ·simp only [Act.put, List.setIfInBounds_toArray, List.set_cons_zero, List.set_cons_succ, zm, zl]
                rfl
               refine take_ (i := 15) (N := some 59) (v := ?_) (a' := ?_) #[T, T, T, T, T, T, T, T, T, T, T, T, T, T, T, T, T, T, F, F, T, T, F, F] rfl rfl (zca HT_.out HW_.out (by kernel_rfl)) (fun _ _ _ h => h) (Or.inl ⟨by rfl, ?_⟩) hHeld ?_ ?_
               rotate_left
               ·rintro w' ⟨s0, s1, s2, s3, s4, s5, s6, s7, s8, s9, s10, s11, s12, s13, s14, s15, s16, s17, s18, s19, s20, s21, s22, s23, s24, s25, s26, s27, s28, s29, s30, s31, s32, s33, s34, s35, s36, s37, s38, s39, s40, s41⟩
                go_simp
                with_reducible rfl
               rotate_left
               ·simp only [Act.put, List.setIfInBounds_toArray, List.set_cons_zero, List.set_cons_succ, zm, zl]
                rfl
               refine pb 18 62 #[T, T, T, T, T, T, T, T, T, T, T, T, T, T, T, T, T, T, T, F, T, T, F, F] rfl rfl HT_.out (by kernel_rfl) pq (by rfl) (by intro w'; go_simp; with_reducible rfl) (by simp only [Act.put, ea, eb, ec, zm, zl]; rfl) ?_
               refine zjc (i := 19) (N := none) (fm 24 22) rfl rfl (zhb HT_.out (by kernel_rfl)) (by decide) (fun K hK => ?_)
               refine zic (w1 := ?_) (by rfl) rfl ?_ ?_
               rotate_left
               ·go_simp
                rfl
               refine hK.out _ _ ?_
               clear hK K
               refine pb 22 65 (fm 24 23) rfl rfl HT_.out (by kernel_rfl) pq (by rfl) (by intro w'; go_simp; with_reducible rfl) (by simp only [Act.put, ea, eb, ec, zm, zl]; rfl) ?_
               refine zjc (i := 23) (N := none) (fm 24 24) rfl rfl (zhb HT_.out (by kernel_rfl)) (by decide) (fun K hK => ?_)
               refine zic (w1 := ?_) (by rfl) rfl ?_ ?_
               rotate_left
               ·obtain ⟨_, h2_⟩ := cell?_setCell_some (w := w30) (p := ⟨go33, (x38_1 : Int).toNat * 20 + (a2).toNat, none⟩) (q := ⟨go33, (x38_1 : Int).toNat * 20 + (a3).toNat, none⟩) (x := (.int .i8 (rdP (za x11_1 x38_1) a3))) (by assumption)
                go_simp
                rfl
               refine hK.out _ _ ?_
               clear hK K
               refine zac (zab HT_.out (by kernel_rfl)) ?_
               have n0_ : zc (Kd.R k54 54 ((w30.setCell ⟨go33, (x38_1 : Int).toNat * 20 + (a2).toNat, none⟩ (.int .i8 (rdP (za x11_1 x38_1) a3))).setCell ⟨go33, (x38_1 : Int).toNat * 20 + (a3).toNat, none⟩ (.int .i8 (rdP (za x11_1 x38_1) a2))) w.heap.size (fun _ => True) (.slice (some ⟨go33, 0, none⟩) x11_1.length co16) y357) := ⟨by (with_reducible repeat (first | apply Kd.R_alloc | apply Kd.R_drewN | apply Kd.R_drew)); exact HQ38.out⟩
               have n1_ : zc (((w30.setCell ⟨go33, (x38_1 : Int).toNat * 20 + (a2).toNat, none⟩ (.int .i8 (rdP (za x11_1 x38_1) a3))).setCell ⟨go33, (x38_1 : Int).toNat * 20 + (a3).toNat, none⟩ (.int .i8 (rdP (za x11_1 x38_1) a2))).heap[gb342]? = some (.cells #[.int .i8 a0_0, .int .i8 a0_1, .bool a0_2, .bool a0_3] 29 (0, 0))) := ⟨by (with_reducible repeat (first | refine zg ?_ _ | refine zi ?_ | refine zh ?_ _)); refine zma ?_ (by have h_ := Kd.R_ne HO_11.out BK342.out (by decide); intro e_; exact h_ (by rw [e_]; rfl)) _; (with_reducible repeat (first | refine zg ?_ _ | refine zi ?_ | refine zh ?_ _)); refine zma ?_ (by have h_ := Kd.R_ne HO_11.out BK342.out (by decide); intro e_; exact h_ (by rw [e_]; rfl)) _; (with_reducible repeat (first | refine zg ?_ _ | refine zi ?_ | refine zh ?_ _)); exact BK342.out⟩
               have n2_ : zc (Below w.heap.size w ((w30.setCell ⟨go33, (x38_1 : Int).toNat * 20 + (a2).toNat, none⟩ (.int .i8 (rdP (za x11_1 x38_1) a3))).setCell ⟨go33, (x38_1 : Int).toNat * 20 + (a3).toNat, none⟩ (.int .i8 (rdP (za x11_1 x38_1) a2)))) := ⟨by repeat (first | (with_reducible first | exact HB.out | apply ze | apply zb | apply zd | refine zf ?_ GB33.out | refine zf ?_ GB33.out | refine zf ?_ GE342.out) | exact HB.out)⟩
               (try clear HO_11)
               (try clear BK342)
               (try clear HB)
               generalize ((w30.setCell ⟨go33, (x38_1 : Int).toNat * 20 + (a2).toNat, none⟩ (.int .i8 (rdP (za x11_1 x38_1) a3))).setCell ⟨go33, (x38_1 : Int).toNat * 20 + (a3).toNat, none⟩ (.int .i8 (rdP (za x11_1 x38_1) a2))) = w39 at n0_ n1_ n2_ ⊢
               have HO_11 := n0_
               have BK342 := n1_
               have HB := n2_
               clear n0_ n1_ n2_
               have p358 : 0 ≤ (x38_1 : Int) := od (by first | (with_reducible assumption) | assumption)
               have q358 : x38_1 < (y357.length : Int) := (by have h_ : (x38_1 : Int) < ((x11_1.length : Int) : Int) := od (by first | (with_reducible assumption) | assumption); first | (have e_ := (Kd.R_reads' HO_11.out).1; omega) | simpa only [Ny355.out, Ny357.out, List.length_set] using h_)
               have ql358 : ((x38_1 : Int) < ((x11_1.length : Int) : Int)) = True := eq_true (od (by first | (with_reducible assumption) | assumption))
               obtain ⟨ad358, e358, u9_0, u9_1, u9_2, u9_3, u9_4, u9_5, u9_6, u9_7, u9_8, u9_9, u9_10, u9_11, u9_12, u9_13, u9_14, u9_15, u9_16, u9_17, u9_18, u9_19⟩ := zta (Kd.R_reads' HO_11.out).2.2 x38_1 p358 q358
               (try rw [← Nbq26.out] at u9_18)
               (try rw [← Nbq26.out] at u9_19)
               obtain rfl : (⟨go33, 0, none⟩ : Addr) = ad358 := (by injection e358)
               (first | simp only [zha] at u9_0 u9_1 u9_2 u9_3 u9_4 u9_5 u9_6 u9_7 u9_8 u9_9 u9_10 u9_11 u9_12 u9_13 u9_14 u9_15 u9_16 u9_17 u9_18 u9_19 | simp only [zrb] at u9_0 u9_1 u9_2 u9_3 u9_4 u9_5 u9_6 u9_7 u9_8 u9_9 u9_10 u9_11 u9_12 u9_13 u9_14 u9_15 u9_16 u9_17 u9_18 u9_19 | simp only [Addr.add, Nat.zero_add] at u9_0 u9_1 u9_2 u9_3 u9_4 u9_5 u9_6 u9_7 u9_8 u9_9 u9_10 u9_11 u9_12 u9_13 u9_14 u9_15 u9_16 u9_17 u9_18 u9_19 | skip)
               replace p358 := eq_true p358
               replace q358 := eq_true q358
               have p359 : 0 ≤ (x38_1 : Int) := od (by first | (with_reducible assumption) | assumption)
               have q359 : x38_1 < (y357.length : Int) := (by have h_ : (x38_1 : Int) < ((x11_1.length : Int) : Int) := od (by first | (with_reducible assumption) | assumption); first | (have e_ := (Kd.R_reads' HO_11.out).1; omega) | simpa only [Ny355.out, Ny357.out, List.length_set] using h_)
               have ql359 : ((x38_1 : Int) < ((x11_1.length : Int) : Int)) = True := eq_true (od (by first | (with_reducible assumption) | assumption))
               obtain ⟨ad359, e359, u10_0, u10_1, u10_2, u10_3, u10_4, u10_5, u10_6, u10_7, u10_8, u10_9, u10_10, u10_11, u10_12, u10_13, u10_14, u10_15, u10_16, u10_17, u10_18, u10_19⟩ := zta (Kd.R_reads' HO_11.out).2.2 x38_1 p359 q359
               (try rw [← Nbq26.out] at u10_18)
               (try rw [← Nbq26.out] at u10_19)
               obtain rfl : (⟨go33, 0, none⟩ : Addr) = ad359 := (by injection e359)
               (first | simp only [zha] at u10_0 u10_1 u10_2 u10_3 u10_4 u10_5 u10_6 u10_7 u10_8 u10_9 u10_10 u10_11 u10_12 u10_13 u10_14 u10_15 u10_16 u10_17 u10_18 u10_19 | simp only [zrb] at u10_0 u10_1 u10_2 u10_3 u10_4 u10_5 u10_6 u10_7 u10_8 u10_9 u10_10 u10_11 u10_12 u10_13 u10_14 u10_15 u10_16 u10_17 u10_18 u10_19 | simp only [Addr.add, Nat.zero_add] at u10_0 u10_1 u10_2 u10_3 u10_4 u10_5 u10_6 u10_7 u10_8 u10_9 u10_10 u10_11 u10_12 u10_13 u10_14 u10_15 u10_16 u10_17 u10_18 u10_19 | skip)
               replace p359 := eq_true p359
               replace q359 := eq_true q359
               have p29 : 0 ≤ (x38_1 : Int) := od (by first | (with_reducible assumption) | assumption)
               have q29 : (x38_1 : Int) < ((x11_1.length : Int) : Int) := od (by first | (with_reducible assumption) | assumption)
               replace p29 := eq_true p29
               replace q29 := eq_true q29
               have HX40 := zc.mk (show Kd.R k54 54 w39 w.heap.size (fun _ => True) (.slice (some ⟨go33, 0, none⟩) x11_1.length co16) y357 from (by (with_reducible repeat (first | apply Kd.R_alloc | apply Kd.R_drewN | apply Kd.R_drew)); exact HO_11.out))
               obtain ⟨ce40, hcl40, hM40, hcc40, hfr40⟩ := Kd.R_elem HX40.out z54 (x38_1 : Int) (od (by first | (with_reducible assumption) | assumption)) (by have h_ : (x38_1 : Int) < ((x11_1.length : Int) : Int) := od (by first | (with_reducible assumption) | assumption); first | exact h_ | (have e_ := (Kd.R_reads' HO_11.out).1; omega) | simpa using h_)
               obtain rfl := zw hM40
               have HP40 := Kd.R_seg HX40.out (x38_1 : Int) (od (by first | (with_reducible assumption) | assumption)) (by have h_ : (x38_1 : Int) < ((x11_1.length : Int) : Int) := od (by first | (with_reducible assumption) | assumption); first | exact h_ | (have e_ := (Kd.R_reads' HO_11.out).1; omega) | simpa using h_) (seg := [.int .i8 (IntKind.i8.wrap (a3))]) (j := 17) hcl40 hcc40 (show 18 ≤ 20 from by decide) (x' := (⟨(⟨(za y357 x38_1).f0.f0, (za y357 x38_1).f0.f1, (za y357 x38_1).f0.f2, (za y357 x38_1).f0.f3, (za y357 x38_1).f0.f4, (za y357 x38_1).f0.f5, (za y357 x38_1).f0.f6, (za y357 x38_1).f0.f7, (za y357 x38_1).f0.f8, (za y357 x38_1).f0.f9, (za y357 x38_1).f0.f10, (za y357 x38_1).f0.f11, (za y357 x38_1).f0.f12, (za y357 x38_1).f0.f13⟩ : S50), (⟨(za y357 x38_1).f1.f0, (za y357 x38_1).f1.f1, (za y357 x38_1).f1.f2⟩ : S52), (⟨IntKind.i8.wrap (a3), (za y357 x38_1).f2.f1⟩ : S46), true⟩ : S54)) (by first | exact zea _ _ _ _ | (have e_ := Nbq26.out; unfold za at e_; rw [← e_]; exact zea _ _ _ _)) (fun _ hk => hk)
               have u11_17 := hcc40 17 _ rfl
               (try simp only [show (k54).sz = 20 from rfl, Nat.mul_one, Nat.add_zero] at u11_17)
               have t4_17 := hfr40 17
               (try simp only [show (k54).sz = 20 from rfl, Nat.mul_one, Nat.add_zero] at t4_17)
               clear hcl40 hcc40 hfr40 hM40
               try go_wp2_with (first | ((with_reducible refine zda (t := 22) (p := 86) rfl ?_); refine zxa (t := 22) (p := 86) (v := ?vo_w41) (w1 := (w39.setCell ⟨go33, (x38_1 : Int).toNat * 20 + 17, none⟩ (.int .i8 (IntKind.i8.wrap (a3))))) ?hg ?ho ?hn ?hr ?_; (case ho => rfl); (case hg => rfl); (case hn => rfl); (case hr => first | (go_simp; done) | (go_simp; rfl)); intro w41 hw; have hg : w39.grownBy w41 (some go33) := (by rw [hw]; exact HP40.2); have hp_ : Kd.R k54 54 w41 w.heap.size (fun _ => True) (.slice (some ⟨go33, 0, none⟩) x11_1.length co16) y360 := (by rw [hw, Ny360.out]; exact HP40.1); clear HP40; have n0_ := zc.mk (hp_); have n1_ := zc.mk (zkb (g := gb342) (o := .cells #[.int .i8 a0_0, .int .i8 a0_1, .bool a0_2, .bool a0_3] 29 (0, 0)) (by (with_reducible repeat (first | refine zg ?_ _ | refine zi ?_ | refine zh ?_ _)); exact BK342.out) hg (Kd.R_ne HO_11.out BK342.out (by decide))); have n2_ := zc.mk ((by rw [hw]; exact zf (HB.out) GB33.out : Below w.heap.size w w41)); clear HO_11; clear BK342; clear HB; have HO_11 := n0_; have BK342 := n1_; have HB := n2_; clear n0_ n1_ n2_; clear hg hw hp_))
               (try simp only [← hl11_1])
               go_roundg k1
               case measure => have := HK1.out; omega
               case rel => exact ⟨(y360), (wrap64 (x38_1 + 1)), (by first | rfl | (simp; done) | (simp [*]; done)), H', ⟨by have := HK1.out; omega⟩, ⟨by (try simp only [hl11_1]); (with_reducible repeat (first | apply Kd.R_alloc | apply Kd.R_drewN | apply Kd.R_drew)); exact HO_11.out⟩, ⟨by (try simp only [hl11_1]); (with_reducible repeat (first | refine zg ?_ _ | refine zi ?_ | refine zh ?_ _)); exact BK342.out⟩, ⟨by repeat (first | (with_reducible first | exact HB.out | apply ze | apply zb | apply zd | refine zf ?_ GE342.out) | exact HB.out)⟩⟩
              rw [if_neg c28] at H
              have c28b0 : ((wrap64 ((za y357 x38_1).f2.f0)) == a2) = false := beq_eq_false_iff_ne.mpr c28
              have c28b1 : ((wrap64 ((za y357 x38_1).f2.f0)) != a2) = true := bne_iff_ne.mpr c28
              (try (have c28b2 : ((IntKind.i64.wrap ((za y357 x38_1).f2.f0)) == a2) = false := by have h_ : ((wrap64 ((za y357 x38_1).f2.f0)) == a2) = false := beq_eq_false_iff_ne.mpr c28; simpa only [zm, zl] using h_))
              (try (have c28b3 : ((IntKind.i64.wrap ((za y357 x38_1).f2.f0)) != a2) = true := by have h_ : ((wrap64 ((za y357 x38_1).f2.f0)) != a2) = true := bne_iff_ne.mpr c28; simpa only [zm, zl] using h_))
              by_cases c42 : (wrap64 ((za y357 x38_1).f2.f0)) = a3
              ·rw [if_pos c42] at H
               have c42b0 : ((wrap64 ((za y357 x38_1).f2.f0)) == a3) = true := beq_iff_eq.mpr c42
               have c42b1 : ((wrap64 ((za y357 x38_1).f2.f0)) != a3) = false := bne_eq_false_iff_eq.mpr c42
               (try (have c42b2 : ((IntKind.i64.wrap ((za y357 x38_1).f2.f0)) == a3) = true := by have h_ : ((wrap64 ((za y357 x38_1).f2.f0)) == a3) = true := beq_iff_eq.mpr c42; simpa only [zm, zl] using h_))
               (try (have c42b3 : ((IntKind.i64.wrap ((za y357 x38_1).f2.f0)) != a3) = false := by have h_ : ((wrap64 ((za y357 x38_1).f2.f0)) != a3) = false := bne_eq_false_iff_eq.mpr c42; simpa only [zm, zl] using h_))
               clear c42
               obtain ⟨y362, hy362⟩ : ∃ y_ : List (S54), y_ = (y357.set (x38_1 : Int).toNat (⟨(⟨(za y357 x38_1).f0.f0, (za y357 x38_1).f0.f1, (za y357 x38_1).f0.f2, (za y357 x38_1).f0.f3, (za y357 x38_1).f0.f4, (za y357 x38_1).f0.f5, (za y357 x38_1).f0.f6, (za y357 x38_1).f0.f7, (za y357 x38_1).f0.f8, (za y357 x38_1).f0.f9, (za y357 x38_1).f0.f10, (za y357 x38_1).f0.f11, (za y357 x38_1).f0.f12, (za y357 x38_1).f0.f13⟩ : S50), (⟨(za y357 x38_1).f1.f0, (za y357 x38_1).f1.f1, (za y357 x38_1).f1.f2⟩ : S52), (⟨IntKind.i8.wrap (a2), (za y357 x38_1).f2.f1⟩ : S46), true⟩ : S54)) := ⟨_, rfl⟩
               replace H : (impl_SwapInPlan.l0 k1 a2 a3 y362 (t346.length : Int) (wrap64 (x38_1 + 1))) = some (r1, r2) := by first | (rw [hy362]; with_reducible exact H) | (have H2_ := (Option.bind_some _ _).symm.trans H; rw [hy362]; with_reducible exact H2_) | (have H2_ := (Option.bind_some _ _).symm.trans H; with_reducible exact H2_) | with_reducible exact H | (rw [hy362]; exact H) | exact H
               have Ny362 := zc.mk hy362
               clear hy362
               have H' := zc.mk H
               clear H
               have p349 : 0 ≤ (x38_1 : Int) := od (by first | (with_reducible assumption) | assumption)
               have q349 : x38_1 < (x11_1.length : Int) := od (by first | (with_reducible assumption) | assumption)
               obtain ⟨ad349, e349, u1_0, u1_1, u1_2, u1_3, u1_4, u1_5, u1_6, u1_7, u1_8, u1_9, u1_10, u1_11, u1_12, u1_13, u1_14, u1_15, u1_16, u1_17, u1_18, u1_19⟩ := zta (Kd.R_reads' HO_11.out).2.2 x38_1 p349 q349
               (try rw [← Nbq26.out] at u1_18)
               (try rw [← Nbq26.out] at u1_19)
               cases e349
               replace p349 := eq_true p349
               replace q349 := eq_true q349
               try go_wp2
               have n0_ := zc.mk (Kd.R_drew HO_11.out)
               have n1_ := zc.mk (zi BK342.out)
               have n2_ := zc.mk (zd HB.out)
               clear HO_11
               clear BK342
               clear HB
               have HO_11 := n0_
               have BK342 := n1_
               have HB := n2_
               clear n0_ n1_ n2_
               have p350 : 0 ≤ (x38_1 : Int) := od (by first | (with_reducible assumption) | assumption)
               have q350 : x38_1 < (x11_1.length : Int) := od (by first | (with_reducible assumption) | assumption)
               obtain ⟨ad350, e350, u2_0, u2_1, u2_2, u2_3, u2_4, u2_5, u2_6, u2_7, u2_8, u2_9, u2_10, u2_11, u2_12, u2_13, u2_14, u2_15, u2_16, u2_17, u2_18, u2_19⟩ := zta (Kd.R_reads' HO_11.out).2.2 x38_1 p350 q350
               (try rw [← Nbq26.out] at u2_18)
               (try rw [← Nbq26.out] at u2_19)
               obtain rfl : ad349 = ad350 := (by injection e350)
               replace p350 := eq_true p350
               replace q350 := eq_true q350
               have pf46 : 0 ≤ (x38_1 : Int) := od (by first | (with_reducible assumption) | assumption)
               have qf46 : (x38_1 : Int) < ((x11_1.length : Int) : Int) := od (by first | (with_reducible assumption) | assumption)
               obtain ⟨go47, co47, eo47, gb47, gl47, cl47, HG47⟩ := Kd.R_form HO_11.out (by omega)
               (first | cases eo47 | (injection eo47 with ea_ en_ ec_; (first | subst ea_ | (injection ea_ with ea_; subst ea_)); subst ec_; clear en_))
               have GB47 := zc.mk gb47
               have GG47 := zc.mk HG47
               clear gb47 gl47 HG47
               (first | simp only [zha] at u1_0 u1_1 u1_2 u1_3 u1_4 u1_5 u1_6 u1_7 u1_8 u1_9 u1_10 u1_11 u1_12 u1_13 u1_14 u1_15 u1_16 u1_17 u1_18 u1_19 | skip)
               (first | simp only [zha] at u2_0 u2_1 u2_2 u2_3 u2_4 u2_5 u2_6 u2_7 u2_8 u2_9 u2_10 u2_11 u2_12 u2_13 u2_14 u2_15 u2_16 u2_17 u2_18 u2_19 | skip)
               clear pf46 qf46
               have u12_0 := ztb (a := fun z_ : Int => ⟨go47, ((x38_1).toNat * 20) + z_.toNat, none⟩) (j := a3) (od (by first | (with_reducible assumption) | assumption)) (od (by first | (with_reducible assumption) | assumption)) u2_0 u2_1 u2_2 u2_3 u2_4 u2_5 u2_6 u2_7 u2_8 u2_9 u2_10 u2_11 u2_12 u2_13
               (try dsimp only at u12_0)
               have p45 : 0 ≤ (a3 : Int) := od (by first | (with_reducible assumption) | assumption)
               have q45 : a3 < (14 : Int) := od (by first | (with_reducible assumption) | assumption)
               replace p45 := eq_true p45
               replace q45 := eq_true q45
               have p352 : 0 ≤ (x38_1 : Int) := od (by first | (with_reducible assumption) | assumption)
               have q352 : x38_1 < (x11_1.length : Int) := od (by first | (with_reducible assumption) | assumption)
               obtain ⟨ad352, e352, u4_0, u4_1, u4_2, u4_3, u4_4, u4_5, u4_6, u4_7, u4_8, u4_9, u4_10, u4_11, u4_12, u4_13, u4_14, u4_15, u4_16, u4_17, u4_18, u4_19⟩ := zta (Kd.R_reads' HO_11.out).2.2 x38_1 p352 q352
               (try rw [← Nbq26.out] at u4_18)
               (try rw [← Nbq26.out] at u4_19)
               obtain rfl : (⟨go47, 0, none⟩ : Addr) = ad352 := (by injection e352)
               (first | simp only [zha] at u4_0 u4_1 u4_2 u4_3 u4_4 u4_5 u4_6 u4_7 u4_8 u4_9 u4_10 u4_11 u4_12 u4_13 u4_14 u4_15 u4_16 u4_17 u4_18 u4_19 | simp only [zrb] at u4_0 u4_1 u4_2 u4_3 u4_4 u4_5 u4_6 u4_7 u4_8 u4_9 u4_10 u4_11 u4_12 u4_13 u4_14 u4_15 u4_16 u4_17 u4_18 u4_19 | simp only [Addr.add, Nat.zero_add] at u4_0 u4_1 u4_2 u4_3 u4_4 u4_5 u4_6 u4_7 u4_8 u4_9 u4_10 u4_11 u4_12 u4_13 u4_14 u4_15 u4_16 u4_17 u4_18 u4_19 | skip)
               replace p352 := eq_true p352
               replace q352 := eq_true q352
               have u13_0 := ztb (a := fun z_ : Int => ⟨go47, ((x38_1).toNat * 20) + z_.toNat, none⟩) (j := a2) (od (by first | (with_reducible assumption) | assumption)) (od (by first | (with_reducible assumption) | assumption)) u4_0 u4_1 u4_2 u4_3 u4_4 u4_5 u4_6 u4_7 u4_8 u4_9 u4_10 u4_11 u4_12 u4_13
               (try dsimp only at u13_0)
               have p48 : 0 ≤ (a2 : Int) := od (by first | (with_reducible assumption) | assumption)
               have q48 : a2 < (14 : Int) := od (by first | (with_reducible assumption) | assumption)
               replace p48 := eq_true p48
               replace q48 := eq_true q48
               have p24 : 0 ≤ (x38_1 : Int) := od (by first | (with_reducible assumption) | assumption)
               have q24 : (x38_1 : Int) < ((x11_1.length : Int) : Int) := od (by first | (with_reducible assumption) | assumption)
               obtain ⟨ce24, hcl24, hM24, hcc24, hfr24⟩ := Kd.R_elem HO_11.out z54 (x38_1 : Int) p24 q24
               obtain rfl := zw hM24
               obtain ⟨u6_0, u6_1, u6_2, u6_3, u6_4, u6_5, u6_6, u6_7, u6_8, u6_9, u6_10, u6_11, u6_12, u6_13, u6_14, u6_15, u6_16, u6_17, u6_18, u6_19⟩ := rx20 (g := go47) (b := (x38_1 : Int).toNat * 20) hcc24
               obtain ⟨t1_0, t1_1, t1_2, t1_3, t1_4, t1_5, t1_6, t1_7, t1_8, t1_9, t1_10, t1_11, t1_12, t1_13, t1_14, t1_15, t1_16, t1_17, t1_18, t1_19⟩ := rf20 (g := go47) (b := (x38_1 : Int).toNat * 20) hfr24
               clear hcl24 hcc24 hfr24 hM24
               replace p24 := eq_true p24
               replace q24 := eq_true q24
               have u14_0 := ztb (a := fun z_ : Int => ⟨go47, (x38_1 : Int).toNat * 20 + z_.toNat, none⟩) (j := a2) (od (by first | (with_reducible assumption) | assumption)) (od (by first | (with_reducible assumption) | assumption)) u6_0 u6_1 u6_2 u6_3 u6_4 u6_5 u6_6 u6_7 u6_8 u6_9 u6_10 u6_11 u6_12 u6_13
               (try dsimp only at u14_0)
               have t5_0 := zhc (a := fun z_ : Int => ⟨go47, (x38_1 : Int).toNat * 20 + z_.toNat, none⟩) (j := a2) (od (by first | (with_reducible assumption) | assumption)) (od (by first | (with_reducible assumption) | assumption)) t1_0 t1_1 t1_2 t1_3 t1_4 t1_5 t1_6 t1_7 t1_8 t1_9 t1_10 t1_11 t1_12 t1_13
               (try dsimp only at t5_0)
               have p49 : 0 ≤ (a2 : Int) := od (by first | (with_reducible assumption) | assumption)
               have q49 : a2 < (14 : Int) := od (by first | (with_reducible assumption) | assumption)
               replace p49 := eq_true p49
               replace q49 := eq_true q49
               obtain ⟨ce50, hcl50, hM50, hcc50, hfr50⟩ := Kd.R_elem HO_11.out z54 (x38_1 : Int) (od (by first | (with_reducible assumption) | assumption)) (by have h_ : (x38_1 : Int) < ((x11_1.length : Int) : Int) := od (by first | (with_reducible assumption) | assumption); first | exact h_ | (have e_ := (Kd.R_reads' HO_11.out).1; omega) | simpa using h_)
               obtain rfl := zw hM50
               have HP50 := (Kd.R_seg HO_11.out (x38_1 : Int) (od (by first | (with_reducible assumption) | assumption)) (by have h_ : (x38_1 : Int) < ((x11_1.length : Int) : Int) := od (by first | (with_reducible assumption) | assumption); first | exact h_ | (have e_ := (Kd.R_reads' HO_11.out).1; omega) | simpa using h_) (seg := [.int .i8 (rdP (za x11_1 x38_1) a3)]) (j := (a2).toNat) hcl50 hcc50 (show (a2).toNat + 1 ≤ 20 from by have hp_ : 0 ≤ (a2 : Int) := od (by first | (with_reducible assumption) | assumption); have hq_ : a2 < (14 : Int) := od (by first | (with_reducible assumption) | assumption); omega) (x' := (stP (za x11_1 x38_1) a2 (rdP (za x11_1 x38_1) a3) : S54)) (by rcases (is14 (j := a2) (od (by first | (with_reducible assumption) | assumption)) (od (by first | (with_reducible assumption) | assumption))) with h_ | h_ | h_ | h_ | h_ | h_ | h_ | h_ | h_ | h_ | h_ | h_ | h_ | h_ <;> rw [h_] <;> first | exact zea _ _ _ _ | (have e_ := Nbq26.out; unfold za at e_; rw [← e_]; exact zea _ _ _ _)) (fun _ hk => hk)).1
               rw [← Ny355.out] at HP50
               have HQ50 := zc.mk HP50
               clear hcl50 hcc50 hfr50 hM50 HP50
               have p25 : 0 ≤ (x38_1 : Int) := od (by first | (with_reducible assumption) | assumption)
               have q25 : (x38_1 : Int) < ((x11_1.length : Int) : Int) := od (by first | (with_reducible assumption) | assumption)
               replace p25 := eq_true p25
               replace q25 := eq_true q25
               have u15_0 := ztb (a := fun z_ : Int => ⟨go47, (x38_1 : Int).toNat * 20 + z_.toNat, none⟩) (j := a3) (od (by first | (with_reducible assumption) | assumption)) (od (by first | (with_reducible assumption) | assumption)) u6_0 u6_1 u6_2 u6_3 u6_4 u6_5 u6_6 u6_7 u6_8 u6_9 u6_10 u6_11 u6_12 u6_13
               (try dsimp only at u15_0)
               have t6_0 := zhc (a := fun z_ : Int => ⟨go47, (x38_1 : Int).toNat * 20 + z_.toNat, none⟩) (j := a3) (od (by first | (with_reducible assumption) | assumption)) (od (by first | (with_reducible assumption) | assumption)) t1_0 t1_1 t1_2 t1_3 t1_4 t1_5 t1_6 t1_7 t1_8 t1_9 t1_10 t1_11 t1_12 t1_13
               (try dsimp only at t6_0)
               have p51 : 0 ≤ (a3 : Int) := od (by first | (with_reducible assumption) | assumption)
               have q51 : a3 < (14 : Int) := od (by first | (with_reducible assumption) | assumption)
               replace p51 := eq_true p51
               replace q51 := eq_true q51
               obtain ⟨ce52, hcl52, hM52, hcc52, hfr52⟩ := Kd.R_elem HQ50.out z54 (x38_1 : Int) (od (by first | (with_reducible assumption) | assumption)) (by have h_ : (x38_1 : Int) < ((x11_1.length : Int) : Int) := od (by first | (with_reducible assumption) | assumption); first | exact h_ | (have e_ := (Kd.R_reads' HO_11.out).1; omega) | simpa using h_)
               obtain rfl := zw hM52
               have HP52 := (Kd.R_seg HQ50.out (x38_1 : Int) (od (by first | (with_reducible assumption) | assumption)) (by have h_ : (x38_1 : Int) < ((x11_1.length : Int) : Int) := od (by first | (with_reducible assumption) | assumption); first | exact h_ | (have e_ := (Kd.R_reads' HO_11.out).1; omega) | simpa using h_) (seg := [.int .i8 (rdP (za x11_1 x38_1) a2)]) (j := (a3).toNat) hcl52 hcc52 (show (a3).toNat + 1 ≤ 20 from by have hp_ : 0 ≤ (a3 : Int) := od (by first | (with_reducible assumption) | assumption); have hq_ : a3 < (14 : Int) := od (by first | (with_reducible assumption) | assumption); omega) (x' := (stP (za y355 x38_1) a3 (rdP (za x11_1 x38_1) a2) : S54)) (by rcases (is14 (j := a3) (od (by first | (with_reducible assumption) | assumption)) (od (by first | (with_reducible assumption) | assumption))) with h_ | h_ | h_ | h_ | h_ | h_ | h_ | h_ | h_ | h_ | h_ | h_ | h_ | h_ <;> rw [h_] <;> first | exact zea _ _ _ _ | (have e_ := Nbq26.out; unfold za at e_; rw [← e_]; exact zea _ _ _ _)) (fun _ hk => hk)).1
               rw [← Ny357.out] at HP52
               have HQ52 := zc.mk HP52
               clear hcl52 hcc52 hfr52 hM52 HP52
               refine zjb (n := 24) (S := fun w' => EB w' go47 ((x38_1).toNat * 20) (za x11_1 x38_1) ((za x11_1 x38_1).f2.f1) ((za x11_1 x38_1).f3) (w'.cell? ⟨go47, ((x38_1).toNat * 20) + (a3).toNat, none⟩ = some (.int .i8 (rdP (za x11_1 x38_1) a3)) ∧ EB w' go47 ((x38_1).toNat * 20) (za x11_1 x38_1) ((za x11_1 x38_1).f2.f1) ((za x11_1 x38_1).f3) (w'.cell? ⟨go47, ((x38_1).toNat * 20) + (a2).toNat, none⟩ = some (.int .i8 (rdP (za x11_1 x38_1) a2))))) (ds := [19, 23]) (fm 24 0) (by kernel_rfl) rfl rfl ⟨u2_0, u2_1, u2_2, u2_3, u2_4, u2_5, u2_6, u2_7, u2_8, u2_9, u2_10, u2_11, u2_12, u2_13, u2_14, u2_15, u2_16, u2_17, u2_18, u2_19, u12_0, u4_0, u4_1, u4_2, u4_3, u4_4, u4_5, u4_6, u4_7, u4_8, u4_9, u4_10, u4_11, u4_12, u4_13, u4_14, u4_15, u4_16, u4_17, u4_18, u4_19, u13_0⟩ (fun hHeld => ?_); refine zsa impl_SwapInPlan.tab11 impl_SwapInPlan.bits11 (fun HT_ HW_ => ?_)
               generalize wr.drew = w44 at HO_11 BK342 HB GG47 HQ50 HQ52 t1_0 t1_1 t1_10 t1_11 t1_12 t1_13 t1_14 t1_15 t1_16 t1_17 t1_18 t1_19 t1_2 t1_3 t1_4 t1_5 t1_6 t1_7 t1_8 t1_9 t5_0 t6_0 u6_0 u6_1 u6_10 u6_11 u6_12 u6_13 u6_14 u6_15 u6_16 u6_17 u6_18 u6_19 u6_2 u6_3 u6_4 u6_5 u6_6 u6_7 u6_8 u6_9 u1_0 u1_1 u1_10 u1_11 u1_12 u1_13 u1_14 u1_15 u1_16 u1_17 u1_18 u1_19 u1_2 u1_3 u1_4 u1_5 u1_6 u1_7 u1_8 u1_9 u2_0 u2_1 u2_10 u2_11 u2_12 u2_13 u2_14 u2_15 u2_16 u2_17 u2_18 u2_19 u2_2 u2_3 u2_4 u2_5 u2_6 u2_7 u2_8 u2_9 u4_0 u4_1 u4_10 u4_11 u4_12 u4_13 u4_14 u4_15 u4_16 u4_17 u4_18 u4_19 u4_2 u4_3 u4_4 u4_5 u4_6 u4_7 u4_8 u4_9 u12_0 u13_0 u14_0 u15_0 hHeld ⊢
               refine pb 0 44 (fm 24 1) rfl rfl HT_.out (by kernel_rfl) pq (by rfl) (by intro w'; go_simp; with_reducible rfl) (by simp only [Act.put, ea, eb, ec, zm, zl]; rfl) ?_
               refine pb 1 45 (fm 24 2) rfl rfl HT_.out (by kernel_rfl) pq (by rfl) (by intro w'; go_simp; with_reducible rfl) (by simp only [Act.put, ea, eb, ec, zm, zl]; rfl) ?_
               refine pb 2 46 (fm 24 3) rfl rfl HT_.out (by kernel_rfl) pq (by rfl) (by intro w'; go_simp; with_reducible rfl) (by simp only [Act.put, ea, eb, ec, zm, zl]; rfl) ?_
               refine pb 3 47 (fm 24 4) rfl rfl HT_.out (by kernel_rfl) pq (by rfl) (by intro w'; go_simp; with_reducible rfl) (by simp only [Act.put, ea, eb, ec, zm, zl]; rfl) ?_
               refine pb 4 48 (fm 24 5) rfl rfl HT_.out (by kernel_rfl) pq (by rfl) (by intro w'; go_simp; with_reducible rfl) (by simp only [Act.put, ea, eb, ec, zm, zl]; rfl) ?_
               refine pb 5 49 (fm 24 6) rfl rfl HT_.out (by kernel_rfl) pq (by rfl) (by intro w'; go_simp; with_reducible rfl) (by simp only [Act.put, ea, eb, ec, zm, zl]; rfl) ?_
               refine pb 6 50 (fm 24 7) rfl rfl HT_.out (by kernel_rfl) pq (by rfl) (by intro w'; go_simp; with_reducible rfl) (by simp only [Act.put, ea, eb, ec, zm, zl]; rfl) ?_
               refine pb 7 51 (fm 24 8) rfl rfl HT_.out (by kernel_rfl) pq (by rfl) (by intro w'; go_simp; with_reducible rfl) (by simp only [Act.put, ea, eb, ec, zm, zl]; rfl) ?_
               refine pb 8 52 (fm 24 9) rfl rfl HT_.out (by kernel_rfl) pq (by rfl) (by intro w'; go_simp; with_reducible rfl) (by simp only [Act.put, ea, eb, ec, zm, zl]; rfl) ?_
               refine pb 10 54 #[T, T, T, T, T, T, T, T, T, F, T, F, F, F, F, F, F, F, F, F, F, F, F, F] rfl rfl HT_.out (by kernel_rfl) pq (by rfl) (by intro w'; go_simp; with_reducible rfl) (by simp only [Act.put, ea, eb, ec, zm, zl]; rfl) ?_
               refine pb 11 55 #[T, T, T, T, T, T, T, T, T, F, T, T, F, F, F, F, F, F, F, F, F, F, F, F] rfl rfl HT_.out (by kernel_rfl) pq (by rfl) (by intro w'; go_simp; with_reducible rfl) (by simp only [Act.put, ea, eb, ec, zm, zl]; rfl) ?_
               refine pb 12 56 #[T, T, T, T, T, T, T, T, T, F, T, T, T, F, F, F, F, F, F, F, F, F, F, F] rfl rfl HT_.out (by kernel_rfl) pq (by rfl) (by intro w'; go_simp; with_reducible rfl) (by simp only [Act.put, ea, eb, ec, zm, zl]; rfl) ?_
               refine pb 13 57 #[T, T, T, T, T, T, T, T, T, F, T, T, T, T, F, F, F, F, F, F, F, F, F, F] rfl rfl HT_.out (by kernel_rfl) pq (by rfl) (by intro w'; go_simp; with_reducible rfl) (by simp only [Act.put, ea, eb, ec, zm, zl]; rfl) ?_
               refine pb 14 58 #[T, T, T, T, T, T, T, T, T, F, T, T, T, T, T, F, F, F, F, F, F, F, F, F] rfl rfl HT_.out (by kernel_rfl) pq (by rfl) (by intro w'; go_simp; with_reducible rfl) (by simp only [Act.put, ea, eb, ec, zm, zl]; rfl) ?_
               refine pb 16 60 #[T, T, T, T, T, T, T, T, T, F, T, T, T, T, T, F, T, F, F, F, F, F, F, F] rfl rfl HT_.out (by kernel_rfl) pq (by rfl) (by intro w'; go_simp; with_reducible rfl) (by simp only [Act.put, ea, eb, ec, zm, zl]; rfl) ?_
               refine pb 17 61 #[T, T, T, T, T, T, T, T, T, F, T, T, T, T, T, F, T, T, F, F, F, F, F, F] rfl rfl HT_.out (by kernel_rfl) pq (by rfl) (by intro w'; go_simp; with_reducible rfl) (by simp only [Act.put, ea, eb, ec, zm, zl]; rfl) ?_
               refine pb 20 63 #[T, T, T, T, T, T, T, T, T, F, T, T, T, T, T, F, T, T, F, F, T, F, F, F] rfl rfl HT_.out (by kernel_rfl) pq (by rfl) (by intro w'; go_simp; with_reducible rfl) (by simp only [Act.put, ea, eb, ec, zm, zl]; rfl) ?_
               refine pb 21 64 #[T, T, T, T, T, T, T, T, T, F, T, T, T, T, T, F, T, T, F, F, T, T, F, F] rfl rfl HT_.out (by kernel_rfl) pq (by rfl) (by intro w'; go_simp; with_reducible rfl) (by simp only [Act.put, ea, eb, ec, zm, zl]; rfl) ?_
               refine take_ (i := 9) (N := some 53) (v := ?_) (a' := ?_) #[T, T, T, T, T, T, T, T, T, T, T, T, T, T, T, F, T, T, F, F, T, T, F, F] rfl rfl (zca HT_.out HW_.out (by kernel_rfl)) (fun _ _ _ h => h) (Or.inl ⟨by rfl, ?_⟩) hHeld ?_ ?_
               rotate_left
               ·rintro w' ⟨s0, s1, s2, s3, s4, s5, s6, s7, s8, s9, s10, s11, s12, s13, s14, s15, s16, s17, s18, s19, s20, s21, s22, s23, s24, s25, s26, s27, s28, s29, s30, s31, s32, s33, s34, s35, s36, s37, s38, s39, s40, s41⟩
                go_simp
                with_reducible rfl
               rotate_left
               ·simp only [Act.put, List.setIfInBounds_toArray, List.set_cons_zero, List.set_cons_succ, zm, zl]
                rfl
               refine take_ (i := 15) (N := some 59) (v := ?_) (a' := ?_) #[T, T, T, T, T, T, T, T, T, T, T, T, T, T, T, T, T, T, F, F, T, T, F, F] rfl rfl (zca HT_.out HW_.out (by kernel_rfl)) (fun _ _ _ h => h) (Or.inl ⟨by rfl, ?_⟩) hHeld ?_ ?_
               rotate_left
               ·rintro w' ⟨s0, s1, s2, s3, s4, s5, s6, s7, s8, s9, s10, s11, s12, s13, s14, s15, s16, s17, s18, s19, s20, s21, s22, s23, s24, s25, s26, s27, s28, s29, s30, s31, s32, s33, s34, s35, s36, s37, s38, s39, s40, s41⟩
                go_simp
                with_reducible rfl
               rotate_left
               ·simp only [Act.put, List.setIfInBounds_toArray, List.set_cons_zero, List.set_cons_succ, zm, zl]
                rfl
               refine pb 18 62 #[T, T, T, T, T, T, T, T, T, T, T, T, T, T, T, T, T, T, T, F, T, T, F, F] rfl rfl HT_.out (by kernel_rfl) pq (by rfl) (by intro w'; go_simp; with_reducible rfl) (by simp only [Act.put, ea, eb, ec, zm, zl]; rfl) ?_
               refine zjc (i := 19) (N := none) (fm 24 22) rfl rfl (zhb HT_.out (by kernel_rfl)) (by decide) (fun K hK => ?_)
               refine zic (w1 := ?_) (by rfl) rfl ?_ ?_
               rotate_left
               ·go_simp
                rfl
               refine hK.out _ _ ?_
               clear hK K
               refine pb 22 65 (fm 24 23) rfl rfl HT_.out (by kernel_rfl) pq (by rfl) (by intro w'; go_simp; with_reducible rfl) (by simp only [Act.put, ea, eb, ec, zm, zl]; rfl) ?_
               refine zjc (i := 23) (N := none) (fm 24 24) rfl rfl (zhb HT_.out (by kernel_rfl)) (by decide) (fun K hK => ?_)
               refine zic (w1 := ?_) (by rfl) rfl ?_ ?_
               rotate_left
               ·obtain ⟨_, h2_⟩ := cell?_setCell_some (w := w44) (p := ⟨go47, (x38_1 : Int).toNat * 20 + (a2).toNat, none⟩) (q := ⟨go47, (x38_1 : Int).toNat * 20 + (a3).toNat, none⟩) (x := (.int .i8 (rdP (za x11_1 x38_1) a3))) (by assumption)
                go_simp
                rfl
               refine hK.out _ _ ?_
               clear hK K
               refine zac (zab HT_.out (by kernel_rfl)) ?_
               have n0_ : zc (Kd.R k54 54 ((w44.setCell ⟨go47, (x38_1 : Int).toNat * 20 + (a2).toNat, none⟩ (.int .i8 (rdP (za x11_1 x38_1) a3))).setCell ⟨go47, (x38_1 : Int).toNat * 20 + (a3).toNat, none⟩ (.int .i8 (rdP (za x11_1 x38_1) a2))) w.heap.size (fun _ => True) (.slice (some ⟨go47, 0, none⟩) x11_1.length co16) y357) := ⟨by (with_reducible repeat (first | apply Kd.R_alloc | apply Kd.R_drewN | apply Kd.R_drew)); exact HQ52.out⟩
               have n1_ : zc (((w44.setCell ⟨go47, (x38_1 : Int).toNat * 20 + (a2).toNat, none⟩ (.int .i8 (rdP (za x11_1 x38_1) a3))).setCell ⟨go47, (x38_1 : Int).toNat * 20 + (a3).toNat, none⟩ (.int .i8 (rdP (za x11_1 x38_1) a2))).heap[gb342]? = some (.cells #[.int .i8 a0_0, .int .i8 a0_1, .bool a0_2, .bool a0_3] 29 (0, 0))) := ⟨by (with_reducible repeat (first | refine zg ?_ _ | refine zi ?_ | refine zh ?_ _)); refine zma ?_ (by have h_ := Kd.R_ne HO_11.out BK342.out (by decide); intro e_; exact h_ (by rw [e_]; rfl)) _; (with_reducible repeat (first | refine zg ?_ _ | refine zi ?_ | refine zh ?_ _)); refine zma ?_ (by have h_ := Kd.R_ne HO_11.out BK342.out (by decide); intro e_; exact h_ (by rw [e_]; rfl)) _; (with_reducible repeat (first | refine zg ?_ _ | refine zi ?_ | refine zh ?_ _)); exact BK342.out⟩
               have n2_ : zc (Below w.heap.size w ((w44.setCell ⟨go47, (x38_1 : Int).toNat * 20 + (a2).toNat, none⟩ (.int .i8 (rdP (za x11_1 x38_1) a3))).setCell ⟨go47, (x38_1 : Int).toNat * 20 + (a3).toNat, none⟩ (.int .i8 (rdP (za x11_1 x38_1) a2)))) := ⟨by repeat (first | (with_reducible first | exact HB.out | apply ze | apply zb | apply zd | refine zf ?_ GB47.out | refine zf ?_ GB47.out | refine zf ?_ GE342.out) | exact HB.out)⟩
               (try clear HO_11)
               (try clear BK342)
               (try clear HB)
               generalize ((w44.setCell ⟨go47, (x38_1 : Int).toNat * 20 + (a2).toNat, none⟩ (.int .i8 (rdP (za x11_1 x38_1) a3))).setCell ⟨go47, (x38_1 : Int).toNat * 20 + (a3).toNat, none⟩ (.int .i8 (rdP (za x11_1 x38_1) a2))) = w53 at n0_ n1_ n2_ ⊢
               have HO_11 := n0_
               have BK342 := n1_
               have HB := n2_
               clear n0_ n1_ n2_
               have p358 : 0 ≤ (x38_1 : Int) := od (by first | (with_reducible assumption) | assumption)
               have q358 : x38_1 < (y357.length : Int) := (by have h_ : (x38_1 : Int) < ((x11_1.length : Int) : Int) := od (by first | (with_reducible assumption) | assumption); first | (have e_ := (Kd.R_reads' HO_11.out).1; omega) | simpa only [Ny355.out, Ny357.out, List.length_set] using h_)
               have ql358 : ((x38_1 : Int) < ((x11_1.length : Int) : Int)) = True := eq_true (od (by first | (with_reducible assumption) | assumption))
               obtain ⟨ad358, e358, u9_0, u9_1, u9_2, u9_3, u9_4, u9_5, u9_6, u9_7, u9_8, u9_9, u9_10, u9_11, u9_12, u9_13, u9_14, u9_15, u9_16, u9_17, u9_18, u9_19⟩ := zta (Kd.R_reads' HO_11.out).2.2 x38_1 p358 q358
               (try rw [← Nbq26.out] at u9_18)
               (try rw [← Nbq26.out] at u9_19)
               obtain rfl : (⟨go47, 0, none⟩ : Addr) = ad358 := (by injection e358)
               (first | simp only [zha] at u9_0 u9_1 u9_2 u9_3 u9_4 u9_5 u9_6 u9_7 u9_8 u9_9 u9_10 u9_11 u9_12 u9_13 u9_14 u9_15 u9_16 u9_17 u9_18 u9_19 | simp only [zrb] at u9_0 u9_1 u9_2 u9_3 u9_4 u9_5 u9_6 u9_7 u9_8 u9_9 u9_10 u9_11 u9_12 u9_13 u9_14 u9_15 u9_16 u9_17 u9_18 u9_19 | simp only [Addr.add, Nat.zero_add] at u9_0 u9_1 u9_2 u9_3 u9_4 u9_5 u9_6 u9_7 u9_8 u9_9 u9_10 u9_11 u9_12 u9_13 u9_14 u9_15 u9_16 u9_17 u9_18 u9_19 | skip)
               replace p358 := eq_true p358
               replace q358 := eq_true q358
               have p359 : 0 ≤ (x38_1 : Int) := od (by first | (with_reducible assumption) | assumption)
               have q359 : x38_1 < (y357.length : Int) := (by have h_ : (x38_1 : Int) < ((x11_1.length : Int) : Int) := od (by first | (with_reducible assumption) | assumption); first | (have e_ := (Kd.R_reads' HO_11.out).1; omega) | simpa only [Ny355.out, Ny357.out, List.length_set] using h_)
               have ql359 : ((x38_1 : Int) < ((x11_1.length : Int) : Int)) = True := eq_true (od (by first | (with_reducible assumption) | assumption))
               obtain ⟨ad359, e359, u10_0, u10_1, u10_2, u10_3, u10_4, u10_5, u10_6, u10_7, u10_8, u10_9, u10_10, u10_11, u10_12, u10_13, u10_14, u10_15, u10_16, u10_17, u10_18, u10_19⟩ := zta (Kd.R_reads' HO_11.out).2.2 x38_1 p359 q359
               (try rw [← Nbq26.out] at u10_18)
               (try rw [← Nbq26.out] at u10_19)
               obtain rfl : (⟨go47, 0, none⟩ : Addr) = ad359 := (by injection e359)
               (first | simp only [zha] at u10_0 u10_1 u10_2 u10_3 u10_4 u10_5 u10_6 u10_7 u10_8 u10_9 u10_10 u10_11 u10_12 u10_13 u10_14 u10_15 u10_16 u10_17 u10_18 u10_19 | simp only [zrb] at u10_0 u10_1 u10_2 u10_3 u10_4 u10_5 u10_6 u10_7 u10_8 u10_9 u10_10 u10_11 u10_12 u10_13 u10_14 u10_15 u10_16 u10_17 u10_18 u10_19 | simp only [Addr.add, Nat.zero_add] at u10_0 u10_1 u10_2 u10_3 u10_4 u10_5 u10_6 u10_7 u10_8 u10_9 u10_10 u10_11 u10_12 u10_13 u10_14 u10_15 u10_16 u10_17 u10_18 u10_19 | skip)
               replace p359 := eq_true p359
               replace q359 := eq_true q359
               have p361 : 0 ≤ (x38_1 : Int) := od (by first | (with_reducible assumption) | assumption)
               have q361 : x38_1 < (y357.length : Int) := (by have h_ : (x38_1 : Int) < ((x11_1.length : Int) : Int) := od (by first | (with_reducible assumption) | assumption); first | (have e_ := (Kd.R_reads' HO_11.out).1; omega) | simpa only [Ny355.out, Ny357.out, List.length_set] using h_)
               have ql361 : ((x38_1 : Int) < ((x11_1.length : Int) : Int)) = True := eq_true (od (by first | (with_reducible assumption) | assumption))
               obtain ⟨ad361, e361, u16_0, u16_1, u16_2, u16_3, u16_4, u16_5, u16_6, u16_7, u16_8, u16_9, u16_10, u16_11, u16_12, u16_13, u16_14, u16_15, u16_16, u16_17, u16_18, u16_19⟩ := zta (Kd.R_reads' HO_11.out).2.2 x38_1 p361 q361
               (try rw [← Nbq26.out] at u16_18)
               (try rw [← Nbq26.out] at u16_19)
               obtain rfl : (⟨go47, 0, none⟩ : Addr) = ad361 := (by injection e361)
               (first | simp only [zha] at u16_0 u16_1 u16_2 u16_3 u16_4 u16_5 u16_6 u16_7 u16_8 u16_9 u16_10 u16_11 u16_12 u16_13 u16_14 u16_15 u16_16 u16_17 u16_18 u16_19 | simp only [zrb] at u16_0 u16_1 u16_2 u16_3 u16_4 u16_5 u16_6 u16_7 u16_8 u16_9 u16_10 u16_11 u16_12 u16_13 u16_14 u16_15 u16_16 u16_17 u16_18 u16_19 | simp only [Addr.add, Nat.zero_add] at u16_0 u16_1 u16_2 u16_3 u16_4 u16_5 u16_6 u16_7 u16_8 u16_9 u16_10 u16_11 u16_12 u16_13 u16_14 u16_15 u16_16 u16_17 u16_18 u16_19 | skip)
               replace p361 := eq_true p361
               replace q361 := eq_true q361
               have p43 : 0 ≤ (x38_1 : Int) := od (by first | (with_reducible assumption) | assumption)
               have q43 : (x38_1 : Int) < ((x11_1.length : Int) : Int) := od (by first | (with_reducible assumption) | assumption)
               replace p43 := eq_true p43
               replace q43 := eq_true q43
               have HX54 := zc.mk (show Kd.R k54 54 w53 w.heap.size (fun _ => True) (.slice (some ⟨go47, 0, none⟩) x11_1.length co16) y357 from (by (with_reducible repeat (first | apply Kd.R_alloc | apply Kd.R_drewN | apply Kd.R_drew)); exact HO_11.out))
               obtain ⟨ce54, hcl54, hM54, hcc54, hfr54⟩ := Kd.R_elem HX54.out z54 (x38_1 : Int) (od (by first | (with_reducible assumption) | assumption)) (by have h_ : (x38_1 : Int) < ((x11_1.length : Int) : Int) := od (by first | (with_reducible assumption) | assumption); first | exact h_ | (have e_ := (Kd.R_reads' HO_11.out).1; omega) | simpa using h_)
               obtain rfl := zw hM54
               have HP54 := Kd.R_seg HX54.out (x38_1 : Int) (od (by first | (with_reducible assumption) | assumption)) (by have h_ : (x38_1 : Int) < ((x11_1.length : Int) : Int) := od (by first | (with_reducible assumption) | assumption); first | exact h_ | (have e_ := (Kd.R_reads' HO_11.out).1; omega) | simpa using h_) (seg := [.int .i8 (IntKind.i8.wrap (a2))]) (j := 17) hcl54 hcc54 (show 18 ≤ 20 from by decide) (x' := (⟨(⟨(za y357 x38_1).f0.f0, (za y357 x38_1).f0.f1, (za y357 x38_1).f0.f2, (za y357 x38_1).f0.f3, (za y357 x38_1).f0.f4, (za y357 x38_1).f0.f5, (za y357 x38_1).f0.f6, (za y357 x38_1).f0.f7, (za y357 x38_1).f0.f8, (za y357 x38_1).f0.f9, (za y357 x38_1).f0.f10, (za y357 x38_1).f0.f11, (za y357 x38_1).f0.f12, (za y357 x38_1).f0.f13⟩ : S50), (⟨(za y357 x38_1).f1.f0, (za y357 x38_1).f1.f1, (za y357 x38_1).f1.f2⟩ : S52), (⟨IntKind.i8.wrap (a2), (za y357 x38_1).f2.f1⟩ : S46), true⟩ : S54)) (by first | exact zea _ _ _ _ | (have e_ := Nbq26.out; unfold za at e_; rw [← e_]; exact zea _ _ _ _)) (fun _ hk => hk)
               have u17_17 := hcc54 17 _ rfl
               (try simp only [show (k54).sz = 20 from rfl, Nat.mul_one, Nat.add_zero] at u17_17)
               have t7_17 := hfr54 17
               (try simp only [show (k54).sz = 20 from rfl, Nat.mul_one, Nat.add_zero] at t7_17)
               clear hcl54 hcc54 hfr54 hM54
               try go_wp2_with (first | ((with_reducible refine zda (t := 22) (p := 101) rfl ?_); refine zxa (t := 22) (p := 101) (v := ?vo_w55) (w1 := (w53.setCell ⟨go47, (x38_1 : Int).toNat * 20 + 17, none⟩ (.int .i8 (IntKind.i8.wrap (a2))))) ?hg ?ho ?hn ?hr ?_; (case ho => rfl); (case hg => rfl); (case hn => rfl); (case hr => first | (go_simp; done) | (go_simp; rfl)); intro w55 hw; have hg : w53.grownBy w55 (some go47) := (by rw [hw]; exact HP54.2); have hp_ : Kd.R k54 54 w55 w.heap.size (fun _ => True) (.slice (some ⟨go47, 0, none⟩) x11_1.length co16) y362 := (by rw [hw, Ny362.out]; exact HP54.1); clear HP54; have n0_ := zc.mk (hp_); have n1_ := zc.mk (zkb (g := gb342) (o := .cells #[.int .i8 a0_0, .int .i8 a0_1, .bool a0_2, .bool a0_3] 29 (0, 0)) (by (with_reducible repeat (first | refine zg ?_ _ | refine zi ?_ | refine zh ?_ _)); exact BK342.out) hg (Kd.R_ne HO_11.out BK342.out (by decide))); have n2_ := zc.mk ((by rw [hw]; exact zf (HB.out) GB47.out : Below w.heap.size w w55)); clear HO_11; clear BK342; clear HB; have HO_11 := n0_; have BK342 := n1_; have HB := n2_; clear n0_ n1_ n2_; clear hg hw hp_))
               (try simp only [← hl11_1])
               go_roundg k1
               case measure => have := HK1.out; omega
               case rel => exact ⟨(y362), (wrap64 (x38_1 + 1)), (by first | rfl | (simp; done) | (simp [*]; done)), H', ⟨by have := HK1.out; omega⟩, ⟨by (try simp only [hl11_1]); (with_reducible repeat (first | apply Kd.R_alloc | apply Kd.R_drewN | apply Kd.R_drew)); exact HO_11.out⟩, ⟨by (try simp only [hl11_1]); (with_reducible repeat (first | refine zg ?_ _ | refine zi ?_ | refine zh ?_ _)); exact BK342.out⟩, ⟨by repeat (first | (with_reducible first | exact HB.out | apply ze | apply zb | apply zd | refine zf ?_ GE342.out) | exact HB.out)⟩⟩
              rw [if_neg c42] at H
              have c42b0 : ((wrap64 ((za y357 x38_1).f2.f0)) == a3) = false := beq_eq_false_iff_ne.mpr c42
              have c42b1 : ((wrap64 ((za y357 x38_1).f2.f0)) != a3) = true := bne_iff_ne.mpr c42
              (try (have c42b2 : ((IntKind.i64.wrap ((za y357 x38_1).f2.f0)) == a3) = false := by have h_ : ((wrap64 ((za y357 x38_1).f2.f0)) == a3) = false := beq_eq_false_iff_ne.mpr c42; simpa only [zm, zl] using h_))
              (try (have c42b3 : ((IntKind.i64.wrap ((za y357 x38_1).f2.f0)) != a3) = true := by have h_ : ((wrap64 ((za y357 x38_1).f2.f0)) != a3) = true := bne_iff_ne.mpr c42; simpa only [zm, zl] using h_))
              have H' := zc.mk H
              clear H
              have p349 : 0 ≤ (x38_1 : Int) := od (by first | (with_reducible assumption) | assumption)
              have q349 : x38_1 < (x11_1.length : Int) := od (by first | (with_reducible assumption) | assumption)
              obtain ⟨ad349, e349, u1_0, u1_1, u1_2, u1_3, u1_4, u1_5, u1_6, u1_7, u1_8, u1_9, u1_10, u1_11, u1_12, u1_13, u1_14, u1_15, u1_16, u1_17, u1_18, u1_19⟩ := zta (Kd.R_reads' HO_11.out).2.2 x38_1 p349 q349
              (try rw [← Nbq26.out] at u1_18)
              (try rw [← Nbq26.out] at u1_19)
              cases e349
              replace p349 := eq_true p349
              replace q349 := eq_true q349
              try go_wp2
              have n0_ := zc.mk (Kd.R_drew HO_11.out)
              have n1_ := zc.mk (zi BK342.out)
              have n2_ := zc.mk (zd HB.out)
              clear HO_11
              clear BK342
              clear HB
              have HO_11 := n0_
              have BK342 := n1_
              have HB := n2_
              clear n0_ n1_ n2_
              have p350 : 0 ≤ (x38_1 : Int) := od (by first | (with_reducible assumption) | assumption)
              have q350 : x38_1 < (x11_1.length : Int) := od (by first | (with_reducible assumption) | assumption)
              obtain ⟨ad350, e350, u2_0, u2_1, u2_2, u2_3, u2_4, u2_5, u2_6, u2_7, u2_8, u2_9, u2_10, u2_11, u2_12, u2_13, u2_14, u2_15, u2_16, u2_17, u2_18, u2_19⟩ := zta (Kd.R_reads' HO_11.out).2.2 x38_1 p350 q350
              (try rw [← Nbq26.out] at u2_18)
              (try rw [← Nbq26.out] at u2_19)
              obtain rfl : ad349 = ad350 := (by injection e350)
              replace p350 := eq_true p350
              replace q350 := eq_true q350
              have pf58 : 0 ≤ (x38_1 : Int) := od (by first | (with_reducible assumption) | assumption)
              have qf58 : (x38_1 : Int) < ((x11_1.length : Int) : Int) := od (by first | (with_reducible assumption) | assumption)
              obtain ⟨go59, co59, eo59, gb59, gl59, cl59, HG59⟩ := Kd.R_form HO_11.out (by omega)
              (first | cases eo59 | (injection eo59 with ea_ en_ ec_; (first | subst ea_ | (injection ea_ with ea_; subst ea_)); subst ec_; clear en_))
              have GB59 := zc.mk gb59
              have GG59 := zc.mk HG59
              clear gb59 gl59 HG59
              (first | simp only [zha] at u1_0 u1_1 u1_2 u1_3 u1_4 u1_5 u1_6 u1_7 u1_8 u1_9 u1_10 u1_11 u1_12 u1_13 u1_14 u1_15 u1_16 u1_17 u1_18 u1_19 | skip)
              (first | simp only [zha] at u2_0 u2_1 u2_2 u2_3 u2_4 u2_5 u2_6 u2_7 u2_8 u2_9 u2_10 u2_11 u2_12 u2_13 u2_14 u2_15 u2_16 u2_17 u2_18 u2_19 | skip)
              clear pf58 qf58
              have u18_0 := ztb (a := fun z_ : Int => ⟨go59, ((x38_1).toNat * 20) + z_.toNat, none⟩) (j := a3) (od (by first | (with_reducible assumption) | assumption)) (od (by first | (with_reducible assumption) | assumption)) u2_0 u2_1 u2_2 u2_3 u2_4 u2_5 u2_6 u2_7 u2_8 u2_9 u2_10 u2_11 u2_12 u2_13
              (try dsimp only at u18_0)
              have p57 : 0 ≤ (a3 : Int) := od (by first | (with_reducible assumption) | assumption)
              have q57 : a3 < (14 : Int) := od (by first | (with_reducible assumption) | assumption)
              replace p57 := eq_true p57
              replace q57 := eq_true q57
              have p352 : 0 ≤ (x38_1 : Int) := od (by first | (with_reducible assumption) | assumption)
              have q352 : x38_1 < (x11_1.length : Int) := od (by first | (with_reducible assumption) | assumption)
              obtain ⟨ad352, e352, u4_0, u4_1, u4_2, u4_3, u4_4, u4_5, u4_6, u4_7, u4_8, u4_9, u4_10, u4_11, u4_12, u4_13, u4_14, u4_15, u4_16, u4_17, u4_18, u4_19⟩ := zta (Kd.R_reads' HO_11.out).2.2 x38_1 p352 q352
              (try rw [← Nbq26.out] at u4_18)
              (try rw [← Nbq26.out] at u4_19)
              obtain rfl : (⟨go59, 0, none⟩ : Addr) = ad352 := (by injection e352)
              (first | simp only [zha] at u4_0 u4_1 u4_2 u4_3 u4_4 u4_5 u4_6 u4_7 u4_8 u4_9 u4_10 u4_11 u4_12 u4_13 u4_14 u4_15 u4_16 u4_17 u4_18 u4_19 | simp only [zrb] at u4_0 u4_1 u4_2 u4_3 u4_4 u4_5 u4_6 u4_7 u4_8 u4_9 u4_10 u4_11 u4_12 u4_13 u4_14 u4_15 u4_16 u4_17 u4_18 u4_19 | simp only [Addr.add, Nat.zero_add] at u4_0 u4_1 u4_2 u4_3 u4_4 u4_5 u4_6 u4_7 u4_8 u4_9 u4_10 u4_11 u4_12 u4_13 u4_14 u4_15 u4_16 u4_17 u4_18 u4_19 | skip)
              replace p352 := eq_true p352
              replace q352 := eq_true q352
              have u19_0 := ztb (a := fun z_ : Int => ⟨go59, ((x38_1).toNat * 20) + z_.toNat, none⟩) (j := a2) (od (by first | (with_reducible assumption) | assumption)) (od (by first | (with_reducible assumption) | assumption)) u4_0 u4_1 u4_2 u4_3 u4_4 u4_5 u4_6 u4_7 u4_8 u4_9 u4_10 u4_11 u4_12 u4_13
              (try dsimp only at u19_0)
              have p60 : 0 ≤ (a2 : Int) := od (by first | (with_reducible assumption) | assumption)
              have q60 : a2 < (14 : Int) := od (by first | (with_reducible assumption) | assumption)
              replace p60 := eq_true p60
              replace q60 := eq_true q60
              have p24 : 0 ≤ (x38_1 : Int) := od (by first | (with_reducible assumption) | assumption)
              have q24 : (x38_1 : Int) < ((x11_1.length : Int) : Int) := od (by first | (with_reducible assumption) | assumption)
              obtain ⟨ce24, hcl24, hM24, hcc24, hfr24⟩ := Kd.R_elem HO_11.out z54 (x38_1 : Int) p24 q24
              obtain rfl := zw hM24
              obtain ⟨u6_0, u6_1, u6_2, u6_3, u6_4, u6_5, u6_6, u6_7, u6_8, u6_9, u6_10, u6_11, u6_12, u6_13, u6_14, u6_15, u6_16, u6_17, u6_18, u6_19⟩ := rx20 (g := go59) (b := (x38_1 : Int).toNat * 20) hcc24
              obtain ⟨t1_0, t1_1, t1_2, t1_3, t1_4, t1_5, t1_6, t1_7, t1_8, t1_9, t1_10, t1_11, t1_12, t1_13, t1_14, t1_15, t1_16, t1_17, t1_18, t1_19⟩ := rf20 (g := go59) (b := (x38_1 : Int).toNat * 20) hfr24
              clear hcl24 hcc24 hfr24 hM24
              replace p24 := eq_true p24
              replace q24 := eq_true q24
              have u20_0 := ztb (a := fun z_ : Int => ⟨go59, (x38_1 : Int).toNat * 20 + z_.toNat, none⟩) (j := a2) (od (by first | (with_reducible assumption) | assumption)) (od (by first | (with_reducible assumption) | assumption)) u6_0 u6_1 u6_2 u6_3 u6_4 u6_5 u6_6 u6_7 u6_8 u6_9 u6_10 u6_11 u6_12 u6_13
              (try dsimp only at u20_0)
              have t8_0 := zhc (a := fun z_ : Int => ⟨go59, (x38_1 : Int).toNat * 20 + z_.toNat, none⟩) (j := a2) (od (by first | (with_reducible assumption) | assumption)) (od (by first | (with_reducible assumption) | assumption)) t1_0 t1_1 t1_2 t1_3 t1_4 t1_5 t1_6 t1_7 t1_8 t1_9 t1_10 t1_11 t1_12 t1_13
              (try dsimp only at t8_0)
              have p61 : 0 ≤ (a2 : Int) := od (by first | (with_reducible assumption) | assumption)
              have q61 : a2 < (14 : Int) := od (by first | (with_reducible assumption) | assumption)
              replace p61 := eq_true p61
              replace q61 := eq_true q61
              obtain ⟨ce62, hcl62, hM62, hcc62, hfr62⟩ := Kd.R_elem HO_11.out z54 (x38_1 : Int) (od (by first | (with_reducible assumption) | assumption)) (by have h_ : (x38_1 : Int) < ((x11_1.length : Int) : Int) := od (by first | (with_reducible assumption) | assumption); first | exact h_ | (have e_ := (Kd.R_reads' HO_11.out).1; omega) | simpa using h_)
              obtain rfl := zw hM62
              have HP62 := (Kd.R_seg HO_11.out (x38_1 : Int) (od (by first | (with_reducible assumption) | assumption)) (by have h_ : (x38_1 : Int) < ((x11_1.length : Int) : Int) := od (by first | (with_reducible assumption) | assumption); first | exact h_ | (have e_ := (Kd.R_reads' HO_11.out).1; omega) | simpa using h_) (seg := [.int .i8 (rdP (za x11_1 x38_1) a3)]) (j := (a2).toNat) hcl62 hcc62 (show (a2).toNat + 1 ≤ 20 from by have hp_ : 0 ≤ (a2 : Int) := od (by first | (with_reducible assumption) | assumption); have hq_ : a2 < (14 : Int) := od (by first | (with_reducible assumption) | assumption); omega) (x' := (stP (za x11_1 x38_1) a2 (rdP (za x11_1 x38_1) a3) : S54)) (by rcases (is14 (j := a2) (od (by first | (with_reducible assumption) | assumption)) (od (by first | (with_reducible assumption) | assumption))) with h_ | h_ | h_ | h_ | h_ | h_ | h_ | h_ | h_ | h_ | h_ | h_ | h_ | h_ <;> rw [h_] <;> first | exact zea _ _ _ _ | (have e_ := Nbq26.out; unfold za at e_; rw [← e_]; exact zea _ _ _ _)) (fun _ hk => hk)).1
              rw [← Ny355.out] at HP62
              have HQ62 := zc.mk HP62
              clear hcl62 hcc62 hfr62 hM62 HP62
              have p25 : 0 ≤ (x38_1 : Int) := od (by first | (with_reducible assumption) | assumption)
              have q25 : (x38_1 : Int) < ((x11_1.length : Int) : Int) := od (by first | (with_reducible assumption) | assumption)
              replace p25 := eq_true p25
              replace q25 := eq_true q25
              have u21_0 := ztb (a := fun z_ : Int => ⟨go59, (x38_1 : Int).toNat * 20 + z_.toNat, none⟩) (j := a3) (od (by first | (with_reducible assumption) | assumption)) (od (by first | (with_reducible assumption) | assumption)) u6_0 u6_1 u6_2 u6_3 u6_4 u6_5 u6_6 u6_7 u6_8 u6_9 u6_10 u6_11 u6_12 u6_13
              (try dsimp only at u21_0)
              have t9_0 := zhc (a := fun z_ : Int => ⟨go59, (x38_1 : Int).toNat * 20 + z_.toNat, none⟩) (j := a3) (od (by first | (with_reducible assumption) | assumption)) (od (by first | (with_reducible assumption) | assumption)) t1_0 t1_1 t1_2 t1_3 t1_4 t1_5 t1_6 t1_7 t1_8 t1_9 t1_10 t1_11 t1_12 t1_13
              (try dsimp only at t9_0)
              have p63 : 0 ≤ (a3 : Int) := od (by first | (with_reducible assumption) | assumption)
              have q63 : a3 < (14 : Int) := od (by first | (with_reducible assumption) | assumption)
              replace p63 := eq_true p63
              replace q63 := eq_true q63
              obtain ⟨ce64, hcl64, hM64, hcc64, hfr64⟩ := Kd.R_elem HQ62.out z54 (x38_1 : Int) (od (by first | (with_reducible assumption) | assumption)) (by have h_ : (x38_1 : Int) < ((x11_1.length : Int) : Int) := od (by first | (with_reducible assumption) | assumption); first | exact h_ | (have e_ := (Kd.R_reads' HO_11.out).1; omega) | simpa using h_)
              obtain rfl := zw hM64
              have HP64 := (Kd.R_seg HQ62.out (x38_1 : Int) (od (by first | (with_reducible assumption) | assumption)) (by have h_ : (x38_1 : Int) < ((x11_1.length : Int) : Int) := od (by first | (with_reducible assumption) | assumption); first | exact h_ | (have e_ := (Kd.R_reads' HO_11.out).1; omega) | simpa using h_) (seg := [.int .i8 (rdP (za x11_1 x38_1) a2)]) (j := (a3).toNat) hcl64 hcc64 (show (a3).toNat + 1 ≤ 20 from by have hp_ : 0 ≤ (a3 : Int) := od (by first | (with_reducible assumption) | assumption); have hq_ : a3 < (14 : Int) := od (by first | (with_reducible assumption) | assumption); omega) (x' := (stP (za y355 x38_1) a3 (rdP (za x11_1 x38_1) a2) : S54)) (by rcases (is14 (j := a3) (od (by first | (with_reducible assumption) | assumption)) (od (by first | (with_reducible assumption) | assumption))) with h_ | h_ | h_ | h_ | h_ | h_ | h_ | h_ | h_ | h_ | h_ | h_ | h_ | h_ <;> rw [h_] <;> first | exact zea _ _ _ _ | (have e_ := Nbq26.out; unfold za at e_; rw [← e_]; exact zea _ _ _ _)) (fun _ hk => hk)).1
              rw [← Ny357.out] at HP64
              have HQ64 := zc.mk HP64
              clear hcl64 hcc64 hfr64 hM64 HP64
              refine zjb (n := 24) (S := fun w' => EB w' go59 ((x38_1).toNat * 20) (za x11_1 x38_1) ((za x11_1 x38_1).f2.f1) ((za x11_1 x38_1).f3) (w'.cell? ⟨go59, ((x38_1).toNat * 20) + (a3).toNat, none⟩ = some (.int .i8 (rdP (za x11_1 x38_1) a3)) ∧ EB w' go59 ((x38_1).toNat * 20) (za x11_1 x38_1) ((za x11_1 x38_1).f2.f1) ((za x11_1 x38_1).f3) (w'.cell? ⟨go59, ((x38_1).toNat * 20) + (a2).toNat, none⟩ = some (.int .i8 (rdP (za x11_1 x38_1) a2))))) (ds := [19, 23]) (fm 24 0) (by kernel_rfl) rfl rfl ⟨u2_0, u2_1, u2_2, u2_3, u2_4, u2_5, u2_6, u2_7, u2_8, u2_9, u2_10, u2_11, u2_12, u2_13, u2_14, u2_15, u2_16, u2_17, u2_18, u2_19, u18_0, u4_0, u4_1, u4_2, u4_3, u4_4, u4_5, u4_6, u4_7, u4_8, u4_9, u4_10, u4_11, u4_12, u4_13, u4_14, u4_15, u4_16, u4_17, u4_18, u4_19, u19_0⟩ (fun hHeld => ?_); refine zsa impl_SwapInPlan.tab11 impl_SwapInPlan.bits11 (fun HT_ HW_ => ?_)
              generalize wr.drew = w56 at HO_11 BK342 HB GG59 HQ62 HQ64 t1_0 t1_1 t1_10 t1_11 t1_12 t1_13 t1_14 t1_15 t1_16 t1_17 t1_18 t1_19 t1_2 t1_3 t1_4 t1_5 t1_6 t1_7 t1_8 t1_9 t8_0 t9_0 u6_0 u6_1 u6_10 u6_11 u6_12 u6_13 u6_14 u6_15 u6_16 u6_17 u6_18 u6_19 u6_2 u6_3 u6_4 u6_5 u6_6 u6_7 u6_8 u6_9 u1_0 u1_1 u1_10 u1_11 u1_12 u1_13 u1_14 u1_15 u1_16 u1_17 u1_18 u1_19 u1_2 u1_3 u1_4 u1_5 u1_6 u1_7 u1_8 u1_9 u2_0 u2_1 u2_10 u2_11 u2_12 u2_13 u2_14 u2_15 u2_16 u2_17 u2_18 u2_19 u2_2 u2_3 u2_4 u2_5 u2_6 u2_7 u2_8 u2_9 u4_0 u4_1 u4_10 u4_11 u4_12 u4_13 u4_14 u4_15 u4_16 u4_17 u4_18 u4_19 u4_2 u4_3 u4_4 u4_5 u4_6 u4_7 u4_8 u4_9 u18_0 u19_0 u20_0 u21_0 hHeld ⊢
              refine pb 0 44 (fm 24 1) rfl rfl HT_.out (by kernel_rfl) pq (by rfl) (by intro w'; go_simp; with_reducible rfl) (by simp only [Act.put, ea, eb, ec, zm, zl]; rfl) ?_
              refine pb 1 45 (fm 24 2) rfl rfl HT_.out (by kernel_rfl) pq (by rfl) (by intro w'; go_simp; with_reducible rfl) (by simp only [Act.put, ea, eb, ec, zm, zl]; rfl) ?_
              refine pb 2 46 (fm 24 3) rfl rfl HT_.out (by kernel_rfl) pq (by rfl) (by intro w'; go_simp; with_reducible rfl) (by simp only [Act.put, ea, eb, ec, zm, zl]; rfl) ?_
              refine pb 3 47 (fm 24 4) rfl rfl HT_.out (by kernel_rfl) pq (by rfl) (by intro w'; go_simp; with_reducible rfl) (by simp only [Act.put, ea, eb, ec, zm, zl]; rfl) ?_
              refine pb 4 48 (fm 24 5) rfl rfl HT_.out (by kernel_rfl) pq (by rfl) (by intro w'; go_simp; with_reducible rfl) (by simp only [Act.put, ea, eb, ec, zm, zl]; rfl) ?_
              refine pb 5 49 (fm 24 6) rfl rfl HT_.out (by kernel_rfl) pq (by rfl) (by intro w'; go_simp; with_reducible rfl) (by simp only [Act.put, ea, eb, ec, zm, zl]; rfl) ?_
              refine pb 6 50 (fm 24 7) rfl rfl HT_.out (by kernel_rfl) pq (by rfl) (by intro w'; go_simp; with_reducible rfl) (by simp only [Act.put, ea, eb, ec, zm, zl]; rfl) ?_
              refine pb 7 51 (fm 24 8) rfl rfl HT_.out (by kernel_rfl) pq (by rfl) (by intro w'; go_simp; with_reducible rfl) (by simp only [Act.put, ea, eb, ec, zm, zl]; rfl) ?_
              refine pb 8 52 (fm 24 9) rfl rfl HT_.out (by kernel_rfl) pq (by rfl) (by intro w'; go_simp; with_reducible rfl) (by simp only [Act.put, ea, eb, ec, zm, zl]; rfl) ?_
              refine pb 10 54 #[T, T, T, T, T, T, T, T, T, F, T, F, F, F, F, F, F, F, F, F, F, F, F, F] rfl rfl HT_.out (by kernel_rfl) pq (by rfl) (by intro w'; go_simp; with_reducible rfl) (by simp only [Act.put, ea, eb, ec, zm, zl]; rfl) ?_
              refine pb 11 55 #[T, T, T, T, T, T, T, T, T, F, T, T, F, F, F, F, F, F, F, F, F, F, F, F] rfl rfl HT_.out (by kernel_rfl) pq (by rfl) (by intro w'; go_simp; with_reducible rfl) (by simp only [Act.put, ea, eb, ec, zm, zl]; rfl) ?_
              refine pb 12 56 #[T, T, T, T, T, T, T, T, T, F, T, T, T, F, F, F, F, F, F, F, F, F, F, F] rfl rfl HT_.out (by kernel_rfl) pq (by rfl) (by intro w'; go_simp; with_reducible rfl) (by simp only [Act.put, ea, eb, ec, zm, zl]; rfl) ?_
              refine pb 13 57 #[T, T, T, T, T, T, T, T, T, F, T, T, T, T, F, F, F, F, F, F, F, F, F, F] rfl rfl HT_.out (by kernel_rfl) pq (by rfl) (by intro w'; go_simp; with_reducible rfl) (by simp only [Act.put, ea, eb, ec, zm, zl]; rfl) ?_
              refine pb 14 58 #[T, T, T, T, T, T, T, T, T, F, T, T, T, T, T, F, F, F, F, F, F, F, F, F] rfl rfl HT_.out (by kernel_rfl) pq (by rfl) (by intro w'; go_simp; with_reducible rfl) (by simp only [Act.put, ea, eb, ec, zm, zl]; rfl) ?_
              refine pb 16 60 #[T, T, T, T, T, T, T, T, T, F, T, T, T, T, T, F, T, F, F, F, F, F, F, F] rfl rfl HT_.out (by kernel_rfl) pq (by rfl) (by intro w'; go_simp; with_reducible rfl) (by simp only [Act.put, ea, eb, ec, zm, zl]; rfl) ?_
              refine pb 17 61 #[T, T, T, T, T, T, T, T, T, F, T, T, T, T, T, F, T, T, F, F, F, F, F, F] rfl rfl HT_.out (by kernel_rfl) pq (by rfl) (by intro w'; go_simp; with_reducible rfl) (by simp only [Act.put, ea, eb, ec, zm, zl]; rfl) ?_
              refine pb 20 63 #[T, T, T, T, T, T, T, T, T, F, T, T, T, T, T, F, T, T, F, F, T, F, F, F] rfl rfl HT_.out (by kernel_rfl) pq (by rfl) (by intro w'; go_simp; with_reducible rfl) (by simp only [Act.put, ea, eb, ec, zm, zl]; rfl) ?_
              refine pb 21 64 #[T, T, T, T, T, T, T, T, T, F, T, T, T, T, T, F, T, T, F, F, T, T, F, F] rfl rfl HT_.out (by kernel_rfl) pq (by rfl) (by intro w'; go_simp; with_reducible rfl) (by simp only [Act.put, ea, eb, ec, zm, zl]; rfl) ?_
              refine take_ (i := 9) (N := some 53) (v := ?_) (a' := ?_) #[T, T, T, T, T, T, T, T, T, T, T, T, T, T, T, F, T, T, F, F, T, T, F, F] rfl rfl (zca HT_.out HW_.out (by kernel_rfl)) (fun _ _ _ h => h) (Or.inl ⟨by rfl, ?_⟩) hHeld ?_ ?_
              rotate_left
              ·rintro w' ⟨s0, s1, s2, s3, s4, s5, s6, s7, s8, s9, s10, s11, s12, s13, s14, s15, s16, s17, s18, s19, s20, s21, s22, s23, s24, s25, s26, s27, s28, s29, s30, s31, s32, s33, s34, s35, s36, s37, s38, s39, s40, s41⟩
               go_simp
               with_reducible rfl
              rotate_left
              ·simp only [Act.put, List.setIfInBounds_toArray, List.set_cons_zero, List.set_cons_succ, zm, zl]
               rfl
              refine take_ (i := 15) (N := some 59) (v := ?_) (a' := ?_) #[T, T, T, T, T, T, T, T, T, T, T, T, T, T, T, T, T, T, F, F, T, T, F, F] rfl rfl (zca HT_.out HW_.out (by kernel_rfl)) (fun _ _ _ h => h) (Or.inl ⟨by rfl, ?_⟩) hHeld ?_ ?_
              rotate_left
              ·rintro w' ⟨s0, s1, s2, s3, s4, s5, s6, s7, s8, s9, s10, s11, s12, s13, s14, s15, s16, s17, s18, s19, s20, s21, s22, s23, s24, s25, s26, s27, s28, s29, s30, s31, s32, s33, s34, s35, s36, s37, s38, s39, s40, s41⟩
               go_simp
               with_reducible rfl
              rotate_left
              ·simp only [Act.put, List.setIfInBounds_toArray, List.set_cons_zero, List.set_cons_succ, zm, zl]
               rfl
              refine pb 18 62 #[T, T, T, T, T, T, T, T, T, T, T, T, T, T, T, T, T, T, T, F, T, T, F, F] rfl rfl HT_.out (by kernel_rfl) pq (by rfl) (by intro w'; go_simp; with_reducible rfl) (by simp only [Act.put, ea, eb, ec, zm, zl]; rfl) ?_
              refine zjc (i := 19) (N := none) (fm 24 22) rfl rfl (zhb HT_.out (by kernel_rfl)) (by decide) (fun K hK => ?_)
              refine zic (w1 := ?_) (by rfl) rfl ?_ ?_
              rotate_left
              ·go_simp
               rfl
              refine hK.out _ _ ?_
              clear hK K
              refine pb 22 65 (fm 24 23) rfl rfl HT_.out (by kernel_rfl) pq (by rfl) (by intro w'; go_simp; with_reducible rfl) (by simp only [Act.put, ea, eb, ec, zm, zl]; rfl) ?_
              refine zjc (i := 23) (N := none) (fm 24 24) rfl rfl (zhb HT_.out (by kernel_rfl)) (by decide) (fun K hK => ?_)
              refine zic (w1 := ?_) (by rfl) rfl ?_ ?_
              rotate_left
              ·obtain ⟨_, h2_⟩ := cell?_setCell_some (w := w56) (p := ⟨go59, (x38_1 : Int).toNat * 20 + (a2).toNat, none⟩) (q := ⟨go59, (x38_1 : Int).toNat * 20 + (a3).toNat, none⟩) (x := (.int .i8 (rdP (za x11_1 x38_1) a3))) (by assumption)
               go_simp
               rfl
              refine hK.out _ _ ?_
              clear hK K
              refine zac (zab HT_.out (by kernel_rfl)) ?_
              have n0_ : zc (Kd.R k54 54 ((w56.setCell ⟨go59, (x38_1 : Int).toNat * 20 + (a2).toNat, none⟩ (.int .i8 (rdP (za x11_1 x38_1) a3))).setCell ⟨go59, (x38_1 : Int).toNat * 20 + (a3).toNat, none⟩ (.int .i8 (rdP (za x11_1 x38_1) a2))) w.heap.size (fun _ => True) (.slice (some ⟨go59, 0, none⟩) x11_1.length co16) y357) := ⟨by (with_reducible repeat (first | apply Kd.R_alloc | apply Kd.R_drewN | apply Kd.R_drew)); exact HQ64.out⟩
              have n1_ : zc (((w56.setCell ⟨go59, (x38_1 : Int).toNat * 20 + (a2).toNat, none⟩ (.int .i8 (rdP (za x11_1 x38_1) a3))).setCell ⟨go59, (x38_1 : Int).toNat * 20 + (a3).toNat, none⟩ (.int .i8 (rdP (za x11_1 x38_1) a2))).heap[gb342]? = some (.cells #[.int .i8 a0_0, .int .i8 a0_1, .bool a0_2, .bool a0_3] 29 (0, 0))) := ⟨by (with_reducible repeat (first | refine zg ?_ _ | refine zi ?_ | refine zh ?_ _)); refine zma ?_ (by have h_ := Kd.R_ne HO_11.out BK342.out (by decide); intro e_; exact h_ (by rw [e_]; rfl)) _; (with_reducible repeat (first | refine zg ?_ _ | refine zi ?_ | refine zh ?_ _)); refine zma ?_ (by have h_ := Kd.R_ne HO_11.out BK342.out (by decide); intro e_; exact h_ (by rw [e_]; rfl)) _; (with_reducible repeat (first | refine zg ?_ _ | refine zi ?_ | refine zh ?_ _)); exact BK342.out⟩
              have n2_ : zc (Below w.heap.size w ((w56.setCell ⟨go59, (x38_1 : Int).toNat * 20 + (a2).toNat, none⟩ (.int .i8 (rdP (za x11_1 x38_1) a3))).setCell ⟨go59, (x38_1 : Int).toNat * 20 + (a3).toNat, none⟩ (.int .i8 (rdP (za x11_1 x38_1) a2)))) := ⟨by repeat (first | (with_reducible first | exact HB.out | apply ze | apply zb | apply zd | refine zf ?_ GB59.out | refine zf ?_ GB59.out | refine zf ?_ GE342.out) | exact HB.out)⟩
              (try clear HO_11)
              (try clear BK342)
              (try clear HB)
              generalize ((w56.setCell ⟨go59, (x38_1 : Int).toNat * 20 + (a2).toNat, none⟩ (.int .i8 (rdP (za x11_1 x38_1) a3))).setCell ⟨go59, (x38_1 : Int).toNat * 20 + (a3).toNat, none⟩ (.int .i8 (rdP (za x11_1 x38_1) a2))) = w56z at n0_ n1_ n2_ ⊢
              have HO_11 := n0_
              have BK342 := n1_
              have HB := n2_
              clear n0_ n1_ n2_
              have p358 : 0 ≤ (x38_1 : Int) := od (by first | (with_reducible assumption) | assumption)
              have q358 : x38_1 < (y357.length : Int) := (by have h_ : (x38_1 : Int) < ((x11_1.length : Int) : Int) := od (by first | (with_reducible assumption) | assumption); first | (have e_ := (Kd.R_reads' HO_11.out).1; omega) | simpa only [Ny355.out, Ny357.out, List.length_set] using h_)
              have ql358 : ((x38_1 : Int) < ((x11_1.length : Int) : Int)) = True := eq_true (od (by first | (with_reducible assumption) | assumption))
              obtain ⟨ad358, e358, u9_0, u9_1, u9_2, u9_3, u9_4, u9_5, u9_6, u9_7, u9_8, u9_9, u9_10, u9_11, u9_12, u9_13, u9_14, u9_15, u9_16, u9_17, u9_18, u9_19⟩ := zta (Kd.R_reads' HO_11.out).2.2 x38_1 p358 q358
              (try rw [← Nbq26.out] at u9_18)
              (try rw [← Nbq26.out] at u9_19)
              obtain rfl : (⟨go59, 0, none⟩ : Addr) = ad358 := (by injection e358)
              (first | simp only [zha] at u9_0 u9_1 u9_2 u9_3 u9_4 u9_5 u9_6 u9_7 u9_8 u9_9 u9_10 u9_11 u9_12 u9_13 u9_14 u9_15 u9_16 u9_17 u9_18 u9_19 | simp only [zrb] at u9_0 u9_1 u9_2 u9_3 u9_4 u9_5 u9_6 u9_7 u9_8 u9_9 u9_10 u9_11 u9_12 u9_13 u9_14 u9_15 u9_16 u9_17 u9_18 u9_19 | simp only [Addr.add, Nat.zero_add] at u9_0 u9_1 u9_2 u9_3 u9_4 u9_5 u9_6 u9_7 u9_8 u9_9 u9_10 u9_11 u9_12 u9_13 u9_14 u9_15 u9_16 u9_17 u9_18 u9_19 | skip)
              replace p358 := eq_true p358
              replace q358 := eq_true q358
              have p359 : 0 ≤ (x38_1 : Int) := od (by first | (with_reducible assumption) | assumption)
              have q359 : x38_1 < (y357.length : Int) := (by have h_ : (x38_1 : Int) < ((x11_1.length : Int) : Int) := od (by first | (with_reducible assumption) | assumption); first | (have e_ := (Kd.R_reads' HO_11.out).1; omega) | simpa only [Ny355.out, Ny357.out, List.length_set] using h_)
              have ql359 : ((x38_1 : Int) < ((x11_1.length : Int) : Int)) = True := eq_true (od (by first | (with_reducible assumption) | assumption))
              obtain ⟨ad359, e359, u10_0, u10_1, u10_2, u10_3, u10_4, u10_5, u10_6, u10_7, u10_8, u10_9, u10_10, u10_11, u10_12, u10_13, u10_14, u10_15, u10_16, u10_17, u10_18, u10_19⟩ := zta (Kd.R_reads' HO_11.out).2.2 x38_1 p359 q359
              (try rw [← Nbq26.out] at u10_18)
              (try rw [← Nbq26.out] at u10_19)
              obtain rfl : (⟨go59, 0, none⟩ : Addr) = ad359 := (by injection e359)
              (first | simp only [zha] at u10_0 u10_1 u10_2 u10_3 u10_4 u10_5 u10_6 u10_7 u10_8 u10_9 u10_10 u10_11 u10_12 u10_13 u10_14 u10_15 u10_16 u10_17 u10_18 u10_19 | simp only [zrb] at u10_0 u10_1 u10_2 u10_3 u10_4 u10_5 u10_6 u10_7 u10_8 u10_9 u10_10 u10_11 u10_12 u10_13 u10_14 u10_15 u10_16 u10_17 u10_18 u10_19 | simp only [Addr.add, Nat.zero_add] at u10_0 u10_1 u10_2 u10_3 u10_4 u10_5 u10_6 u10_7 u10_8 u10_9 u10_10 u10_11 u10_12 u10_13 u10_14 u10_15 u10_16 u10_17 u10_18 u10_19 | skip)
              replace p359 := eq_true p359
              replace q359 := eq_true q359
              have p361 : 0 ≤ (x38_1 : Int) := od (by first | (with_reducible assumption) | assumption)
              have q361 : x38_1 < (y357.length : Int) := (by have h_ : (x38_1 : Int) < ((x11_1.length : Int) : Int) := od (by first | (with_reducible assumption) | assumption); first | (have e_ := (Kd.R_reads' HO_11.out).1; omega) | simpa only [Ny355.out, Ny357.out, List.length_set] using h_)
              have ql361 : ((x38_1 : Int) < ((x11_1.length : Int) : Int)) = True := eq_true (od (by first | (with_reducible assumption) | assumption))
              obtain ⟨ad361, e361, u16_0, u16_1, u16_2, u16_3, u16_4, u16_5, u16_6, u16_7, u16_8, u16_9, u16_10, u16_11, u16_12, u16_13, u16_14, u16_15, u16_16, u16_17, u16_18, u16_19⟩ := zta (Kd.R_reads' HO_11.out).2.2 x38_1 p361 q361
              (try rw [← Nbq26.out] at u16_18)
              (try rw [← Nbq26.out] at u16_19)
              obtain rfl : (⟨go59, 0, none⟩ : Addr) = ad361 := (by injection e361)
              (first | simp only [zha] at u16_0 u16_1 u16_2 u16_3 u16_4 u16_5 u16_6 u16_7 u16_8 u16_9 u16_10 u16_11 u16_12 u16_13 u16_14 u16_15 u16_16 u16_17 u16_18 u16_19 | simp only [zrb] at u16_0 u16_1 u16_2 u16_3 u16_4 u16_5 u16_6 u16_7 u16_8 u16_9 u16_10 u16_11 u16_12 u16_13 u16_14 u16_15 u16_16 u16_17 u16_18 u16_19 | simp only [Addr.add, Nat.zero_add] at u16_0 u16_1 u16_2 u16_3 u16_4 u16_5 u16_6 u16_7 u16_8 u16_9 u16_10 u16_11 u16_12 u16_13 u16_14 u16_15 u16_16 u16_17 u16_18 u16_19 | skip)
              replace p361 := eq_true p361
              replace q361 := eq_true q361
              try go_wp2
              (try simp only [← hl11_1])
              go_roundg k1
              case measure => have := HK1.out; omega
              case rel => exact ⟨(y357), (wrap64 (x38_1 + 1)), (by first | rfl | (simp; done) | (simp [*]; done)), H', ⟨by have := HK1.out; omega⟩, ⟨by (try simp only [hl11_1]); (with_reducible repeat (first | apply Kd.R_alloc | apply Kd.R_drewN | apply Kd.R_drew)); exact HO_11.out⟩, ⟨by (try simp only [hl11_1]); (with_reducible repeat (first | refine zg ?_ _ | refine zi ?_ | refine zh ?_ _)); exact BK342.out⟩, ⟨by repeat (first | (with_reducible first | exact HB.out | apply ze | apply zb | apply zd | refine zf ?_ GB59.out | refine zf ?_ GB59.out | refine zf ?_ GE342.out) | exact HB.out)⟩⟩
             replace c27 := Bool.eq_false_iff.mpr c27
             subst c27
             have H1 : (impl_SwapInPlan.l0 k1 a2 a3 y357 (t346.length : Int) (wrap64 (x38_1 + 1))) = some (r1, r2) := by rw [if_neg (show ¬ (false = true) by decide)] at H; exact H
             clear H
             have H := H1
             clear H1
             have H' := zc.mk H
             clear H
             have p349 : 0 ≤ (x38_1 : Int) := od (by first | (with_reducible assumption) | assumption)
             have q349 : x38_1 < (x11_1.length : Int) := od (by first | (with_reducible assumption) | assumption)
             obtain ⟨ad349, e349, u1_0, u1_1, u1_2, u1_3, u1_4, u1_5, u1_6, u1_7, u1_8, u1_9, u1_10, u1_11, u1_12, u1_13, u1_14, u1_15, u1_16, u1_17, u1_18, u1_19⟩ := zta (Kd.R_reads' HO_11.out).2.2 x38_1 p349 q349
             (try rw [← Nbq26.out] at u1_18)
             (try rw [← Nbq26.out] at u1_19)
             cases e349
             replace p349 := eq_true p349
             replace q349 := eq_true q349
             try go_wp2
             have n0_ := zc.mk (Kd.R_drew HO_11.out)
             have n1_ := zc.mk (zi BK342.out)
             have n2_ := zc.mk (zd HB.out)
             clear HO_11
             clear BK342
             clear HB
             have HO_11 := n0_
             have BK342 := n1_
             have HB := n2_
             clear n0_ n1_ n2_
             have p350 : 0 ≤ (x38_1 : Int) := od (by first | (with_reducible assumption) | assumption)
             have q350 : x38_1 < (x11_1.length : Int) := od (by first | (with_reducible assumption) | assumption)
             obtain ⟨ad350, e350, u2_0, u2_1, u2_2, u2_3, u2_4, u2_5, u2_6, u2_7, u2_8, u2_9, u2_10, u2_11, u2_12, u2_13, u2_14, u2_15, u2_16, u2_17, u2_18, u2_19⟩ := zta (Kd.R_reads' HO_11.out).2.2 x38_1 p350 q350
             (try rw [← Nbq26.out] at u2_18)
             (try rw [← Nbq26.out] at u2_19)
             obtain rfl : ad349 = ad350 := (by injection e350)
             replace p350 := eq_true p350
             replace q350 := eq_true q350
             have pf67 : 0 ≤ (x38_1 : Int) := od (by first | (with_reducible assumption) | assumption)
             have qf67 : (x38_1 : Int) < ((x11_1.length : Int) : Int) := od (by first | (with_reducible assumption) | assumption)
             obtain ⟨go68, co68, eo68, gb68, gl68, cl68, HG68⟩ := Kd.R_form HO_11.out (by omega)
             (first | cases eo68 | (injection eo68 with ea_ en_ ec_; (first | subst ea_ | (injection ea_ with ea_; subst ea_)); subst ec_; clear en_))
             have GB68 := zc.mk gb68
             have GG68 := zc.mk HG68
             clear gb68 gl68 HG68
             (first | simp only [zha] at u1_0 u1_1 u1_2 u1_3 u1_4 u1_5 u1_6 u1_7 u1_8 u1_9 u1_10 u1_11 u1_12 u1_13 u1_14 u1_15 u1_16 u1_17 u1_18 u1_19 | skip)
             (first | simp only [zha] at u2_0 u2_1 u2_2 u2_3 u2_4 u2_5 u2_6 u2_7 u2_8 u2_9 u2_10 u2_11 u2_12 u2_13 u2_14 u2_15 u2_16 u2_17 u2_18 u2_19 | skip)
             clear pf67 qf67
             have u22_0 := ztb (a := fun z_ : Int => ⟨go68, ((x38_1).toNat * 20) + z_.toNat, none⟩) (j := a3) (od (by first | (with_reducible assumption) | assumption)) (od (by first | (with_reducible assumption) | assumption)) u2_0 u2_1 u2_2 u2_3 u2_4 u2_5 u2_6 u2_7 u2_8 u2_9 u2_10 u2_11 u2_12 u2_13
             (try dsimp only at u22_0)
             have p66 : 0 ≤ (a3 : Int) := od (by first | (with_reducible assumption) | assumption)
             have q66 : a3 < (14 : Int) := od (by first | (with_reducible assumption) | assumption)
             replace p66 := eq_true p66
             replace q66 := eq_true q66
             have p352 : 0 ≤ (x38_1 : Int) := od (by first | (with_reducible assumption) | assumption)
             have q352 : x38_1 < (x11_1.length : Int) := od (by first | (with_reducible assumption) | assumption)
             obtain ⟨ad352, e352, u4_0, u4_1, u4_2, u4_3, u4_4, u4_5, u4_6, u4_7, u4_8, u4_9, u4_10, u4_11, u4_12, u4_13, u4_14, u4_15, u4_16, u4_17, u4_18, u4_19⟩ := zta (Kd.R_reads' HO_11.out).2.2 x38_1 p352 q352
             (try rw [← Nbq26.out] at u4_18)
             (try rw [← Nbq26.out] at u4_19)
             obtain rfl : (⟨go68, 0, none⟩ : Addr) = ad352 := (by injection e352)
             (first | simp only [zha] at u4_0 u4_1 u4_2 u4_3 u4_4 u4_5 u4_6 u4_7 u4_8 u4_9 u4_10 u4_11 u4_12 u4_13 u4_14 u4_15 u4_16 u4_17 u4_18 u4_19 | simp only [zrb] at u4_0 u4_1 u4_2 u4_3 u4_4 u4_5 u4_6 u4_7 u4_8 u4_9 u4_10 u4_11 u4_12 u4_13 u4_14 u4_15 u4_16 u4_17 u4_18 u4_19 | simp only [Addr.add, Nat.zero_add] at u4_0 u4_1 u4_2 u4_3 u4_4 u4_5 u4_6 u4_7 u4_8 u4_9 u4_10 u4_11 u4_12 u4_13 u4_14 u4_15 u4_16 u4_17 u4_18 u4_19 | skip)
             replace p352 := eq_true p352
             replace q352 := eq_true q352
             have u23_0 := ztb (a := fun z_ : Int => ⟨go68, ((x38_1).toNat * 20) + z_.toNat, none⟩) (j := a2) (od (by first | (with_reducible assumption) | assumption)) (od (by first | (with_reducible assumption) | assumption)) u4_0 u4_1 u4_2 u4_3 u4_4 u4_5 u4_6 u4_7 u4_8 u4_9 u4_10 u4_11 u4_12 u4_13
             (try dsimp only at u23_0)
             have p69 : 0 ≤ (a2 : Int) := od (by first | (with_reducible assumption) | assumption)
             have q69 : a2 < (14 : Int) := od (by first | (with_reducible assumption) | assumption)
             replace p69 := eq_true p69
             replace q69 := eq_true q69
             have p24 : 0 ≤ (x38_1 : Int) := od (by first | (with_reducible assumption) | assumption)
             have q24 : (x38_1 : Int) < ((x11_1.length : Int) : Int) := od (by first | (with_reducible assumption) | assumption)
             obtain ⟨ce24, hcl24, hM24, hcc24, hfr24⟩ := Kd.R_elem HO_11.out z54 (x38_1 : Int) p24 q24
             obtain rfl := zw hM24
             obtain ⟨u6_0, u6_1, u6_2, u6_3, u6_4, u6_5, u6_6, u6_7, u6_8, u6_9, u6_10, u6_11, u6_12, u6_13, u6_14, u6_15, u6_16, u6_17, u6_18, u6_19⟩ := rx20 (g := go68) (b := (x38_1 : Int).toNat * 20) hcc24
             obtain ⟨t1_0, t1_1, t1_2, t1_3, t1_4, t1_5, t1_6, t1_7, t1_8, t1_9, t1_10, t1_11, t1_12, t1_13, t1_14, t1_15, t1_16, t1_17, t1_18, t1_19⟩ := rf20 (g := go68) (b := (x38_1 : Int).toNat * 20) hfr24
             clear hcl24 hcc24 hfr24 hM24
             replace p24 := eq_true p24
             replace q24 := eq_true q24
             have u24_0 := ztb (a := fun z_ : Int => ⟨go68, (x38_1 : Int).toNat * 20 + z_.toNat, none⟩) (j := a2) (od (by first | (with_reducible assumption) | assumption)) (od (by first | (with_reducible assumption) | assumption)) u6_0 u6_1 u6_2 u6_3 u6_4 u6_5 u6_6 u6_7 u6_8 u6_9 u6_10 u6_11 u6_12 u6_13
             (try dsimp only at u24_0)
             have t10_0 := zhc (a := fun z_ : Int => ⟨go68, (x38_1 : Int).toNat * 20 + z_.toNat, none⟩) (j := a2) (od (by first | (with_reducible assumption) | assumption)) (od (by first | (with_reducible assumption) | assumption)) t1_0 t1_1 t1_2 t1_3 t1_4 t1_5 t1_6 t1_7 t1_8 t1_9 t1_10 t1_11 t1_12 t1_13
             (try dsimp only at t10_0)
             have p70 : 0 ≤ (a2 : Int) := od (by first | (with_reducible assumption) | assumption)
             have q70 : a2 < (14 : Int) := od (by first | (with_reducible assumption) | assumption)
             replace p70 := eq_true p70
             replace q70 := eq_true q70
             obtain ⟨ce71, hcl71, hM71, hcc71, hfr71⟩ := Kd.R_elem HO_11.out z54 (x38_1 : Int) (od (by first | (with_reducible assumption) | assumption)) (by have h_ : (x38_1 : Int) < ((x11_1.length : Int) : Int) := od (by first | (with_reducible assumption) | assumption); first | exact h_ | (have e_ := (Kd.R_reads' HO_11.out).1; omega) | simpa using h_)
             obtain rfl := zw hM71
             have HP71 := (Kd.R_seg HO_11.out (x38_1 : Int) (od (by first | (with_reducible assumption) | assumption)) (by have h_ : (x38_1 : Int) < ((x11_1.length : Int) : Int) := od (by first | (with_reducible assumption) | assumption); first | exact h_ | (have e_ := (Kd.R_reads' HO_11.out).1; omega) | simpa using h_) (seg := [.int .i8 (rdP (za x11_1 x38_1) a3)]) (j := (a2).toNat) hcl71 hcc71 (show (a2).toNat + 1 ≤ 20 from by have hp_ : 0 ≤ (a2 : Int) := od (by first | (with_reducible assumption) | assumption); have hq_ : a2 < (14 : Int) := od (by first | (with_reducible assumption) | assumption); omega) (x' := (stP (za x11_1 x38_1) a2 (rdP (za x11_1 x38_1) a3) : S54)) (by rcases (is14 (j := a2) (od (by first | (with_reducible assumption) | assumption)) (od (by first | (with_reducible assumption) | assumption))) with h_ | h_ | h_ | h_ | h_ | h_ | h_ | h_ | h_ | h_ | h_ | h_ | h_ | h_ <;> rw [h_] <;> first | exact zea _ _ _ _ | (have e_ := Nbq26.out; unfold za at e_; rw [← e_]; exact zea _ _ _ _)) (fun _ hk => hk)).1
             rw [← Ny355.out] at HP71
             have HQ71 := zc.mk HP71
             clear hcl71 hcc71 hfr71 hM71 HP71
             have p25 : 0 ≤ (x38_1 : Int) := od (by first | (with_reducible assumption) | assumption)
             have q25 : (x38_1 : Int) < ((x11_1.length : Int) : Int) := od (by first | (with_reducible assumption) | assumption)
             replace p25 := eq_true p25
             replace q25 := eq_true q25
             have u25_0 := ztb (a := fun z_ : Int => ⟨go68, (x38_1 : Int).toNat * 20 + z_.toNat, none⟩) (j := a3) (od (by first | (with_reducible assumption) | assumption)) (od (by first | (with_reducible assumption) | assumption)) u6_0 u6_1 u6_2 u6_3 u6_4 u6_5 u6_6 u6_7 u6_8 u6_9 u6_10 u6_11 u6_12 u6_13
             (try dsimp only at u25_0)
             have t11_0 := zhc (a := fun z_ : Int => ⟨go68, (x38_1 : Int).toNat * 20 + z_.toNat, none⟩) (j := a3) (od (by first | (with_reducible assumption) | assumption)) (od (by first | (with_reducible assumption) | assumption)) t1_0 t1_1 t1_2 t1_3 t1_4 t1_5 t1_6 t1_7 t1_8 t1_9 t1_10 t1_11 t1_12 t1_13
             (try dsimp only at t11_0)
             have p72 : 0 ≤ (a3 : Int) := od (by first | (with_reducible assumption) | assumption)
             have q72 : a3 < (14 : Int) := od (by first | (with_reducible assumption) | assumption)
             replace p72 := eq_true p72
             replace q72 := eq_true q72
             obtain ⟨ce73, hcl73, hM73, hcc73, hfr73⟩ := Kd.R_elem HQ71.out z54 (x38_1 : Int) (od (by first | (with_reducible assumption) | assumption)) (by have h_ : (x38_1 : Int) < ((x11_1.length : Int) : Int) := od (by first | (with_reducible assumption) | assumption); first | exact h_ | (have e_ := (Kd.R_reads' HO_11.out).1; omega) | simpa using h_)
             obtain rfl := zw hM73
             have HP73 := (Kd.R_seg HQ71.out (x38_1 : Int) (od (by first | (with_reducible assumption) | assumption)) (by have h_ : (x38_1 : Int) < ((x11_1.length : Int) : Int) := od (by first | (with_reducible assumption) | assumption); first | exact h_ | (have e_ := (Kd.R_reads' HO_11.out).1; omega) | simpa using h_) (seg := [.int .i8 (rdP (za x11_1 x38_1) a2)]) (j := (a3).toNat) hcl73 hcc73 (show (a3).toNat + 1 ≤ 20 from by have hp_ : 0 ≤ (a3 : Int) := od (by first | (with_reducible assumption) | assumption); have hq_ : a3 < (14 : Int) := od (by first | (with_reducible assumption) | assumption); omega) (x' := (stP (za y355 x38_1) a3 (rdP (za x11_1 x38_1) a2) : S54)) (by rcases (is14 (j := a3) (od (by first | (with_reducible assumption) | assumption)) (od (by first | (with_reducible assumption) | assumption))) with h_ | h_ | h_ | h_ | h_ | h_ | h_ | h_ | h_ | h_ | h_ | h_ | h_ | h_ <;> rw [h_] <;> first | exact zea _ _ _ _ | (have e_ := Nbq26.out; unfold za at e_; rw [← e_]; exact zea _ _ _ _)) (fun _ hk => hk)).1
             rw [← Ny357.out] at HP73
             have HQ73 := zc.mk HP73
             clear hcl73 hcc73 hfr73 hM73 HP73
             refine zjb (n := 24) (S := fun w' => EB w' go68 ((x38_1).toNat * 20) (za x11_1 x38_1) ((za x11_1 x38_1).f2.f1) ((za x11_1 x38_1).f3) (w'.cell? ⟨go68, ((x38_1).toNat * 20) + (a3).toNat, none⟩ = some (.int .i8 (rdP (za x11_1 x38_1) a3)) ∧ EB w' go68 ((x38_1).toNat * 20) (za x11_1 x38_1) ((za x11_1 x38_1).f2.f1) ((za x11_1 x38_1).f3) (w'.cell? ⟨go68, ((x38_1).toNat * 20) + (a2).toNat, none⟩ = some (.int .i8 (rdP (za x11_1 x38_1) a2))))) (ds := [19, 23]) (fm 24 0) (by kernel_rfl) rfl rfl ⟨u2_0, u2_1, u2_2, u2_3, u2_4, u2_5, u2_6, u2_7, u2_8, u2_9, u2_10, u2_11, u2_12, u2_13, u2_14, u2_15, u2_16, u2_17, u2_18, u2_19, u22_0, u4_0, u4_1, u4_2, u4_3, u4_4, u4_5, u4_6, u4_7, u4_8, u4_9, u4_10, u4_11, u4_12, u4_13, u4_14, u4_15, u4_16, u4_17, u4_18, u4_19, u23_0⟩ (fun hHeld => ?_); refine zsa impl_SwapInPlan.tab11 impl_SwapInPlan.bits11 (fun HT_ HW_ => ?_)
             generalize wr.drew = w65 at HO_11 BK342 HB GG68 HQ71 HQ73 t1_0 t1_1 t1_10 t1_11 t1_12 t1_13 t1_14 t1_15 t1_16 t1_17 t1_18 t1_19 t1_2 t1_3 t1_4 t1_5 t1_6 t1_7 t1_8 t1_9 t10_0 t11_0 u6_0 u6_1 u6_10 u6_11 u6_12 u6_13 u6_14 u6_15 u6_16 u6_17 u6_18 u6_19 u6_2 u6_3 u6_4 u6_5 u6_6 u6_7 u6_8 u6_9 u1_0 u1_1 u1_10 u1_11 u1_12 u1_13 u1_14 u1_15 u1_16 u1_17 u1_18 u1_19 u1_2 u1_3 u1_4 u1_5 u1_6 u1_7 u1_8 u1_9 u2_0 u2_1 u2_10 u2_11 u2_12 u2_13 u2_14 u2_15 u2_16 u2_17 u2_18 u2_19 u2_2 u2_3 u2_4 u2_5 u2_6 u2_7 u2_8 u2_9 u4_0 u4_1 u4_10 u4_11 u4_12 u4_13 u4_14 u4_15 u4_16 u4_17 u4_18 u4_19 u4_2 u4_3 u4_4 u4_5 u4_6 u4_7 u4_8 u4_9 u22_0 u23_0 u24_0 u25_0 hHeld ⊢
             refine pb 0 44 (fm 24 1) rfl rfl HT_.out (by kernel_rfl) pq (by rfl) (by intro w'; go_simp; with_reducible rfl) (by simp only [Act.put, ea, eb, ec, zm, zl]; rfl) ?_
             refine pb 1 45 (fm 24 2) rfl rfl HT_.out (by kernel_rfl) pq (by rfl) (by intro w'; go_simp; with_reducible rfl) (by simp only [Act.put, ea, eb, ec, zm, zl]; rfl) ?_
             refine pb 2 46 (fm 24 3) rfl rfl HT_.out (by kernel_rfl) pq (by rfl) (by intro w'; go_simp; with_reducible rfl) (by simp only [Act.put, ea, eb, ec, zm, zl]; rfl) ?_
             refine pb 3 47 (fm 24 4) rfl rfl HT_.out (by kernel_rfl) pq (by rfl) (by intro w'; go_simp; with_reducible rfl) (by simp only [Act.put, ea, eb, ec, zm, zl]; rfl) ?_
             refine pb 4 48 (fm 24 5) rfl rfl HT_.out (by kernel_rfl) pq (by rfl) (by intro w'; go_simp; with_reducible rfl) (by simp only [Act.put, ea, eb, ec, zm, zl]; rfl) ?_
             refine pb 5 49 (fm 24 6) rfl rfl HT_.out (by kernel_rfl) pq (by rfl) (by intro w'; go_simp; with_reducible rfl) (by simp only [Act.put, ea, eb, ec, zm, zl]; rfl) ?_
             refine pb 6 50 (fm 24 7) rfl rfl HT_.out (by kernel_rfl) pq (by rfl) (by intro w'; go_simp; with_reducible rfl) (by simp only [Act.put, ea, eb, ec, zm, zl]; rfl) ?_
             refine pb 7 51 (fm 24 8) rfl rfl HT_.out (by kernel_rfl) pq (by rfl) (by intro w'; go_simp; with_reducible rfl) (by simp only [Act.put, ea, eb, ec, zm, zl]; rfl) ?_
             refine pb 8 52 (fm 24 9) rfl rfl HT_.out (by kernel_rfl) pq (by rfl) (by intro w'; go_simp; with_reducible rfl) (by simp only [Act.put, ea, eb, ec, zm, zl]; rfl) ?_
             refine pb 10 54 #[T, T, T, T, T, T, T, T, T, F, T, F, F, F, F, F, F, F, F, F, F, F, F, F] rfl rfl HT_.out (by kernel_rfl) pq (by rfl) (by intro w'; go_simp; with_reducible rfl) (by simp only [Act.put, ea, eb, ec, zm, zl]; rfl) ?_
             refine pb 11 55 #[T, T, T, T, T, T, T, T, T, F, T, T, F, F, F, F, F, F, F, F, F, F, F, F] rfl rfl HT_.out (by kernel_rfl) pq (by rfl) (by intro w'; go_simp; with_reducible rfl) (by simp only [Act.put, ea, eb, ec, zm, zl]; rfl) ?_
             refine pb 12 56 #[T, T, T, T, T, T, T, T, T, F, T, T, T, F, F, F, F, F, F, F, F, F, F, F] rfl rfl HT_.out (by kernel_rfl) pq (by rfl) (by intro w'; go_simp; with_reducible rfl) (by simp only [Act.put, ea, eb, ec, zm, zl]; rfl) ?_
             refine pb 13 57 #[T, T, T, T, T, T, T, T, T, F, T, T, T, T, F, F, F, F, F, F, F, F, F, F] rfl rfl HT_.out (by kernel_rfl) pq (by rfl) (by intro w'; go_simp; with_reducible rfl) (by simp only [Act.put, ea, eb, ec, zm, zl]; rfl) ?_
             refine pb 14 58 #[T, T, T, T, T, T, T, T, T, F, T, T, T, T, T, F, F, F, F, F, F, F, F, F] rfl rfl HT_.out (by kernel_rfl) pq (by rfl) (by intro w'; go_simp; with_reducible rfl) (by simp only [Act.put, ea, eb, ec, zm, zl]; rfl) ?_
             refine pb 16 60 #[T, T, T, T, T, T, T, T, T, F, T, T, T, T, T, F, T, F, F, F, F, F, F, F] rfl rfl HT_.out (by kernel_rfl) pq (by rfl) (by intro w'; go_simp; with_reducible rfl) (by simp only [Act.put, ea, eb, ec, zm, zl]; rfl) ?_
             refine pb 17 61 #[T, T, T, T, T, T, T, T, T, F, T, T, T, T, T, F, T, T, F, F, F, F, F, F] rfl rfl HT_.out (by kernel_rfl) pq (by rfl) (by intro w'; go_simp; with_reducible rfl) (by simp only [Act.put, ea, eb, ec, zm, zl]; rfl) ?_
             refine pb 20 63 #[T, T, T, T, T, T, T, T, T, F, T, T, T, T, T, F, T, T, F, F, T, F, F, F] rfl rfl HT_.out (by kernel_rfl) pq (by rfl) (by intro w'; go_simp; with_reducible rfl) (by simp only [Act.put, ea, eb, ec, zm, zl]; rfl) ?_
             refine pb 21 64 #[T, T, T, T, T, T, T, T, T, F, T, T, T, T, T, F, T, T, F, F, T, T, F, F] rfl rfl HT_.out (by kernel_rfl) pq (by rfl) (by intro w'; go_simp; with_reducible rfl) (by simp only [Act.put, ea, eb, ec, zm, zl]; rfl) ?_
             refine take_ (i := 9) (N := some 53) (v := ?_) (a' := ?_) #[T, T, T, T, T, T, T, T, T, T, T, T, T, T, T, F, T, T, F, F, T, T, F, F] rfl rfl (zca HT_.out HW_.out (by kernel_rfl)) (fun _ _ _ h => h) (Or.inl ⟨by rfl, ?_⟩) hHeld ?_ ?_
             rotate_left
             ·rintro w' ⟨s0, s1, s2, s3, s4, s5, s6, s7, s8, s9, s10, s11, s12, s13, s14, s15, s16, s17, s18, s19, s20, s21, s22, s23, s24, s25, s26, s27, s28, s29, s30, s31, s32, s33, s34, s35, s36, s37, s38, s39, s40, s41⟩
              go_simp
              with_reducible rfl
             rotate_left
             ·simp only [Act.put, List.setIfInBounds_toArray, List.set_cons_zero, List.set_cons_succ, zm, zl]
              rfl
             refine take_ (i := 15) (N := some 59) (v := ?_) (a' := ?_) #[T, T, T, T, T, T, T, T, T, T, T, T, T, T, T, T, T, T, F, F, T, T, F, F] rfl rfl (zca HT_.out HW_.out (by kernel_rfl)) (fun _ _ _ h => h) (Or.inl ⟨by rfl, ?_⟩) hHeld ?_ ?_
             rotate_left
             ·rintro w' ⟨s0, s1, s2, s3, s4, s5, s6, s7, s8, s9, s10, s11, s12, s13, s14, s15, s16, s17, s18, s19, s20, s21, s22, s23, s24, s25, s26, s27, s28, s29, s30, s31, s32, s33, s34, s35, s36, s37, s38, s39, s40, s41⟩
              go_simp
              with_reducible rfl
             rotate_left
             ·simp only [Act.put, List.setIfInBounds_toArray, List.set_cons_zero, List.set_cons_succ, zm, zl]
              rfl
             refine pb 18 62 #[T, T, T, T, T, T, T, T, T, T, T, T, T, T, T, T, T, T, T, F, T, T, F, F] rfl rfl HT_.out (by kernel_rfl) pq (by rfl) (by intro w'; go_simp; with_reducible rfl) (by simp only [Act.put, ea, eb, ec, zm, zl]; rfl) ?_
             refine zjc (i := 19) (N := none) (fm 24 22) rfl rfl (zhb HT_.out (by kernel_rfl)) (by decide) (fun K hK => ?_)
             refine zic (w1 := ?_) (by rfl) rfl ?_ ?_
             rotate_left
             ·go_simp
              rfl
             refine hK.out _ _ ?_
             clear hK K
             refine pb 22 65 (fm 24 23) rfl rfl HT_.out (by kernel_rfl) pq (by rfl) (by intro w'; go_simp; with_reducible rfl) (by simp only [Act.put, ea, eb, ec, zm, zl]; rfl) ?_
             refine zjc (i := 23) (N := none) (fm 24 24) rfl rfl (zhb HT_.out (by kernel_rfl)) (by decide) (fun K hK => ?_)
             refine zic (w1 := ?_) (by rfl) rfl ?_ ?_
             rotate_left
             ·obtain ⟨_, h2_⟩ := cell?_setCell_some (w := w65) (p := ⟨go68, (x38_1 : Int).toNat * 20 + (a2).toNat, none⟩) (q := ⟨go68, (x38_1 : Int).toNat * 20 + (a3).toNat, none⟩) (x := (.int .i8 (rdP (za x11_1 x38_1) a3))) (by assumption)
              go_simp
              rfl
             refine hK.out _ _ ?_
             clear hK K
             refine zac (zab HT_.out (by kernel_rfl)) ?_
             have n0_ : zc (Kd.R k54 54 ((w65.setCell ⟨go68, (x38_1 : Int).toNat * 20 + (a2).toNat, none⟩ (.int .i8 (rdP (za x11_1 x38_1) a3))).setCell ⟨go68, (x38_1 : Int).toNat * 20 + (a3).toNat, none⟩ (.int .i8 (rdP (za x11_1 x38_1) a2))) w.heap.size (fun _ => True) (.slice (some ⟨go68, 0, none⟩) x11_1.length co16) y357) := ⟨by (with_reducible repeat (first | apply Kd.R_alloc | apply Kd.R_drewN | apply Kd.R_drew)); exact HQ73.out⟩
             have n1_ : zc (((w65.setCell ⟨go68, (x38_1 : Int).toNat * 20 + (a2).toNat, none⟩ (.int .i8 (rdP (za x11_1 x38_1) a3))).setCell ⟨go68, (x38_1 : Int).toNat * 20 + (a3).toNat, none⟩ (.int .i8 (rdP (za x11_1 x38_1) a2))).heap[gb342]? = some (.cells #[.int .i8 a0_0, .int .i8 a0_1, .bool a0_2, .bool a0_3] 29 (0, 0))) := ⟨by (with_reducible repeat (first | refine zg ?_ _ | refine zi ?_ | refine zh ?_ _)); refine zma ?_ (by have h_ := Kd.R_ne HO_11.out BK342.out (by decide); intro e_; exact h_ (by rw [e_]; rfl)) _; (with_reducible repeat (first | refine zg ?_ _ | refine zi ?_ | refine zh ?_ _)); refine zma ?_ (by have h_ := Kd.R_ne HO_11.out BK342.out (by decide); intro e_; exact h_ (by rw [e_]; rfl)) _; (with_reducible repeat (first | refine zg ?_ _ | refine zi ?_ | refine zh ?_ _)); exact BK342.out⟩
             have n2_ : zc (Below w.heap.size w ((w65.setCell ⟨go68, (x38_1 : Int).toNat * 20 + (a2).toNat, none⟩ (.int .i8 (rdP (za x11_1 x38_1) a3))).setCell ⟨go68, (x38_1 : Int).toNat * 20 + (a3).toNat, none⟩ (.int .i8 (rdP (za x11_1 x38_1) a2)))) := ⟨by repeat (first | (with_reducible first | exact HB.out | apply ze | apply zb | apply zd | refine zf ?_ GB68.out | refine zf ?_ GB68.out | refine zf ?_ GE342.out) | exact HB.out)⟩
             (try clear HO_11)
             (try clear BK342)
             (try clear HB)
             generalize ((w65.setCell ⟨go68, (x38_1 : Int).toNat * 20 + (a2).toNat, none⟩ (.int .i8 (rdP (za x11_1 x38_1) a3))).setCell ⟨go68, (x38_1 : Int).toNat * 20 + (a3).toNat, none⟩ (.int .i8 (rdP (za x11_1 x38_1) a2))) = w65z at n0_ n1_ n2_ ⊢
             have HO_11 := n0_
             have BK342 := n1_
             have HB := n2_
             clear n0_ n1_ n2_
             have p358 : 0 ≤ (x38_1 : Int) := od (by first | (with_reducible assumption) | assumption)
             have q358 : x38_1 < (y357.length : Int) := (by have h_ : (x38_1 : Int) < ((x11_1.length : Int) : Int) := od (by first | (with_reducible assumption) | assumption); first | (have e_ := (Kd.R_reads' HO_11.out).1; omega) | simpa only [Ny355.out, Ny357.out, List.length_set] using h_)
             have ql358 : ((x38_1 : Int) < ((x11_1.length : Int) : Int)) = True := eq_true (od (by first | (with_reducible assumption) | assumption))
             obtain ⟨ad358, e358, u9_0, u9_1, u9_2, u9_3, u9_4, u9_5, u9_6, u9_7, u9_8, u9_9, u9_10, u9_11, u9_12, u9_13, u9_14, u9_15, u9_16, u9_17, u9_18, u9_19⟩ := zta (Kd.R_reads' HO_11.out).2.2 x38_1 p358 q358
             (try rw [← Nbq26.out] at u9_18)
             (try rw [← Nbq26.out] at u9_19)
             obtain rfl : (⟨go68, 0, none⟩ : Addr) = ad358 := (by injection e358)
             (first | simp only [zha] at u9_0 u9_1 u9_2 u9_3 u9_4 u9_5 u9_6 u9_7 u9_8 u9_9 u9_10 u9_11 u9_12 u9_13 u9_14 u9_15 u9_16 u9_17 u9_18 u9_19 | simp only [zrb] at u9_0 u9_1 u9_2 u9_3 u9_4 u9_5 u9_6 u9_7 u9_8 u9_9 u9_10 u9_11 u9_12 u9_13 u9_14 u9_15 u9_16 u9_17 u9_18 u9_19 | simp only [Addr.add, Nat.zero_add] at u9_0 u9_1 u9_2 u9_3 u9_4 u9_5 u9_6 u9_7 u9_8 u9_9 u9_10 u9_11 u9_12 u9_13 u9_14 u9_15 u9_16 u9_17 u9_18 u9_19 | skip)
             replace p358 := eq_true p358
             replace q358 := eq_true q358
             try go_wp2
             (try simp only [← hl11_1])
             go_roundg k1
             case measure => have := HK1.out; omega
             case rel => exact ⟨(y357), (wrap64 (x38_1 + 1)), (by first | rfl | (simp; done) | (simp [*]; done)), H', ⟨by have := HK1.out; omega⟩, ⟨by (try simp only [hl11_1]); (with_reducible repeat (first | apply Kd.R_alloc | apply Kd.R_drewN | apply Kd.R_drew)); exact HO_11.out⟩, ⟨by (try simp only [hl11_1]); (with_reducible repeat (first | refine zg ?_ _ | refine zi ?_ | refine zh ?_ _)); exact BK342.out⟩, ⟨by repeat (first | (with_reducible first | exact HB.out | apply ze | apply zb | apply zd | refine zf ?_ GB68.out | refine zf ?_ GB68.out | refine zf ?_ GE342.out) | exact HB.out)⟩⟩
            rw [if_neg c23] at H
            exact absurd H (by simp)
           rw [if_neg c22] at H
           exact absurd H (by simp)
          rw [if_neg c21] at H
          exact absurd H (by simp)
         rw [if_neg c20] at H
         exact absurd H (by simp)
        rw [if_neg c19] at H
        exact absurd H (by simp)
       rw [if_neg c18] at H
       exact absurd H (by simp)
      rw [if_neg c17] at H
      have c17b0 : decide (x38_1 < (t346.length : Int)) = false := decide_eq_false c17
      (try rw [hl11_1] at c17b0)
      clear c17
      simp only [Option.some.injEq, Prod.mk.injEq] at H
      obtain ⟨rfl, rfl⟩ := H
      go_wp2
      go_ret2
      exact ⟨_, by first | rfl | (simp [zj, zk] <;> rfl) | (simp [*, zj, zk] <;> rfl), by (with_reducible repeat (first | apply Kd.R_alloc | apply Kd.R_drewN | apply Kd.R_drew)); exact HO_11.out, by repeat (first | (with_reducible first | exact HB.out | apply ze | apply zb | apply zd | refine zf ?_ GE342.out) | exact HB.out)⟩
   replace c10 := Bool.eq_false_iff.mpr c10
   subst c10
   have H1 : (some (([] : List (S54)), 2)) = some (r1, r2) := by rw [if_neg (show ¬ (false = true) by decide)] at H; exact H
   clear H
   have H := H1
   clear H1
   simp only [Option.some.injEq, Prod.mk.injEq] at H
   obtain ⟨rfl, rfl⟩ := H
   go_enter Try.func23, Try.ntmps23
   go_wp2_with (first | ((with_reducible refine zp (N := 4) rfl ?_); refine zr ?hg (N := 4) ?hd (cs := #[.int .i8 a0_0, .int .i8 a0_1, .bool a0_2, .bool a0_3]) (t := 29) ?hr ?_; (case hd => rfl); (case hg => rfl); (case hr => first | (go_simp; done) | (go_simp; rfl)); intro gb342 hg w74 hbox hb; obtain ⟨n0_, n2_⟩ := bx (by repeat (first | (with_reducible first | exact HB.out | apply ze | apply zb | apply zd) | exact HB.out)) hb hg; have n1_ := zc.mk (hbox); have n3_ := n2_; clear HB; have HB := n0_; have BK342 := n1_; have GW342 := n2_; have GE342 := n3_; clear n0_ n1_ n2_ n3_; clear hb hbox hg; obtain ⟨y2_0, y2_1, y2_2, y2_3, z2_0, z2_1, z2_2, z2_3⟩ := cf4 BK342.out) | ((with_reducible refine zo (f := 28) rfl ?_); refine zaa (some 21) rfl rfl Try.func28 (by kernel_rfl) rfl #[.agg #[.int .i8 a0_0, .int .i8 a0_1, .bool a0_2, .bool a0_3], .slice A1 l1.length c1] rfl (by (try simp only [List.map_toArray, List.map_cons, List.map_nil]); first | done | rfl | (simp only [List.length_drop, List.length_take]; rfl)) ?_; (with_reducible refine (impl_ValidPlan.calls k a0_0 a0_1 a0_2 a0_3 _ _ l1 true _ ?side1 ?side2 A5.out).mono ?_); (case side1 => repeat (first | exact (Kd.C_below HR1.out HB.out) | (with_reducible refine Kd.C_alloc ?_ _) | (with_reducible refine Kd.C_drewN ?_ _) | (with_reducible refine Kd.C_drew ?_))); (case side2 => exact HC1.out); rintro e w76 ⟨rfl, hb⟩; refine ⟨_, rfl, ?_⟩; have n0_ := zc.mk (zn (by (with_reducible repeat (first | refine zg ?_ _ | refine zi ?_ | refine zh ?_ _)); exact BK342.out) hb); have n1_ := zc.mk (zq (by repeat (first | (with_reducible first | exact HB.out | apply ze | apply zb | apply zd | refine zf ?_ GE342.out) | exact HB.out)) hb); clear BK342; clear HB; have BK342 := n0_; have HB := n1_; clear n0_ n1_; (try clear hb); (try clear hb2); (try clear hk); (try clear hi)) | ((with_reducible refine zo (f := 38) rfl ?_); refine zaa (some 26) rfl rfl Try.func38 (by kernel_rfl) rfl #[.int .i64 a2, .int .i64 0, .int .i64 (wrap64 ((wrap64 (a0_0)) - 1))] rfl (by (try simp only [List.map_toArray, List.map_cons, List.map_nil]); first | done | rfl | (simp only [List.length_drop, List.length_take]; rfl)) ?_; (with_reducible refine (impl_within.calls a2 0 (wrap64 ((wrap64 (a0_0)) - 1)) true _ A7.out).mono ?_); rintro e w' ⟨rfl, ⟨nd, rfl⟩⟩; refine ⟨_, rfl, ?_⟩) | (go_at_call 38; (with_reducible refine (impl_within.calls a3 0 (wrap64 ((wrap64 (a0_0)) - 1)) false _ A9.out).mono ?_); rintro e w' ⟨rfl, ⟨nd, rfl⟩⟩))
   go_ret2
   exact ⟨_, by first | rfl | (simp [zj, zk] <;> rfl) | (simp [*, zj, zk] <;> rfl), by first | exact Kd.R_nil _ _ _ _ _ | exact Kd.N_nil _ _ _ _ _ | exact Kd.V_nil _ _ _ _ _ | exact Kd.Q_nil _ _ _ _ _ | exact Kd.S_nil _ _ _ _ _, by repeat (first | (with_reducible first | exact HB.out | apply ze | apply zb | apply zd | refine zf ?_ GE342.out) | exact HB.out)⟩
  replace c8 := Bool.eq_false_iff.mpr c8
  subst c8
  have H1 : (some (([] : List (S54)), 2)) = some (r1, r2) := by rw [if_neg (show ¬ (false = true) by decide)] at H; exact H
  clear H
  have H := H1
  clear H1
  simp only [Option.some.injEq, Prod.mk.injEq] at H
  obtain ⟨rfl, rfl⟩ := H
  go_enter Try.func23, Try.ntmps23
  go_wp2_with (first | ((with_reducible refine zp (N := 4) rfl ?_); refine zr ?hg (N := 4) ?hd (cs := #[.int .i8 a0_0, .int .i8 a0_1, .bool a0_2, .bool a0_3]) (t := 29) ?hr ?_; (case hd => rfl); (case hg => rfl); (case hr => first | (go_simp; done) | (go_simp; rfl)); intro gb342 hg w77 hbox hb; obtain ⟨n0_, n2_⟩ := bx (by repeat (first | (with_reducible first | exact HB.out | apply ze | apply zb | apply zd) | exact HB.out)) hb hg; have n1_ := zc.mk (hbox); have n3_ := n2_; clear HB; have HB := n0_; have BK342 := n1_; have GW342 := n2_; have GE342 := n3_; clear n0_ n1_ n2_ n3_; clear hb hbox hg; obtain ⟨y3_0, y3_1, y3_2, y3_3, z3_0, z3_1, z3_2, z3_3⟩ := cf4 BK342.out) | ((with_reducible refine zo (f := 28) rfl ?_); refine zaa (some 21) rfl rfl Try.func28 (by kernel_rfl) rfl #[.agg #[.int .i8 a0_0, .int .i8 a0_1, .bool a0_2, .bool a0_3], .slice A1 l1.length c1] rfl (by (try simp only [List.map_toArray, List.map_cons, List.map_nil]); first | done | rfl | (simp only [List.length_drop, List.length_take]; rfl)) ?_; (with_reducible refine (impl_ValidPlan.calls k a0_0 a0_1 a0_2 a0_3 _ _ l1 true _ ?side1 ?side2 A5.out).mono ?_); (case side1 => repeat (first | exact (Kd.C_below HR1.out HB.out) | (with_reducible refine Kd.C_alloc ?_ _) | (with_reducible refine Kd.C_drewN ?_ _) | (with_reducible refine Kd.C_drew ?_))); (case side2 => exact HC1.out); rintro e w79 ⟨rfl, hb⟩; refine ⟨_, rfl, ?_⟩; have n0_ := zc.mk (zn (by (with_reducible repeat (first | refine zg ?_ _ | refine zi ?_ | refine zh ?_ _)); exact BK342.out) hb); have n1_ := zc.mk (zq (by repeat (first | (with_reducible first | exact HB.out | apply ze | apply zb | apply zd | refine zf ?_ GE342.out) | exact HB.out)) hb); clear BK342; clear HB; have BK342 := n0_; have HB := n1_; clear n0_ n1_; (try clear hb); (try clear hb2); (try clear hk); (try clear hi)) | ((with_reducible refine zo (f := 38) rfl ?_); refine zaa (some 26) rfl rfl Try.func38 (by kernel_rfl) rfl #[.int .i64 a2, .int .i64 0, .int .i64 (wrap64 ((wrap64 (a0_0)) - 1))] rfl (by (try simp only [List.map_toArray, List.map_cons, List.map_nil]); first | done | rfl | (simp only [List.length_drop, List.length_take]; rfl)) ?_; (with_reducible refine (impl_within.calls a2 0 (wrap64 ((wrap64 (a0_0)) - 1)) false _ A7.out).mono ?_); rintro e w' ⟨rfl, ⟨nd, rfl⟩⟩; refine ⟨_, rfl, ?_⟩))
  go_ret2
  exact ⟨_, by first | rfl | (simp [zj, zk] <;> rfl) | (simp [*, zj, zk] <;> rfl), by first | exact Kd.R_nil _ _ _ _ _ | exact Kd.N_nil _ _ _ _ _ | exact Kd.V_nil _ _ _ _ _ | exact Kd.Q_nil _ _ _ _ _ | exact Kd.S_nil _ _ _ _ _, by repeat (first | (with_reducible first | exact HB.out | apply ze | apply zb | apply zd | refine zf ?_ GE342.out) | exact HB.out)⟩
 replace c6 := Bool.eq_false_iff.mpr c6
 subst c6
 have H1 : (some (([] : List (S54)), 1)) = some (r1, r2) := by rw [if_neg (show ¬ (false = true) by decide)] at H; exact H
 clear H
 have H := H1
 clear H1
 simp only [Option.some.injEq, Prod.mk.injEq] at H
 obtain ⟨rfl, rfl⟩ := H
 go_enter Try.func23, Try.ntmps23
 go_wp2_with (first | ((with_reducible refine zp (N := 4) rfl ?_); refine zr ?hg (N := 4) ?hd (cs := #[.int .i8 a0_0, .int .i8 a0_1, .bool a0_2, .bool a0_3]) (t := 29) ?hr ?_; (case hd => rfl); (case hg => rfl); (case hr => first | (go_simp; done) | (go_simp; rfl)); intro gb342 hg w80 hbox hb; obtain ⟨n0_, n2_⟩ := bx (by repeat (first | (with_reducible first | exact HB.out | apply ze | apply zb | apply zd) | exact HB.out)) hb hg; have n1_ := zc.mk (hbox); have n3_ := n2_; clear HB; have HB := n0_; have BK342 := n1_; have GW342 := n2_; have GE342 := n3_; clear n0_ n1_ n2_ n3_; clear hb hbox hg; obtain ⟨y4_0, y4_1, y4_2, y4_3, z4_0, z4_1, z4_2, z4_3⟩ := cf4 BK342.out) | ((with_reducible refine zo (f := 28) rfl ?_); refine zaa (some 21) rfl rfl Try.func28 (by kernel_rfl) rfl #[.agg #[.int .i8 a0_0, .int .i8 a0_1, .bool a0_2, .bool a0_3], .slice A1 l1.length c1] rfl (by (try simp only [List.map_toArray, List.map_cons, List.map_nil]); first | done | rfl | (simp only [List.length_drop, List.length_take]; rfl)) ?_; (with_reducible refine (impl_ValidPlan.calls k a0_0 a0_1 a0_2 a0_3 _ _ l1 false _ ?side1 ?side2 A5.out).mono ?_); (case side1 => repeat (first | exact (Kd.C_below HR1.out HB.out) | (with_reducible refine Kd.C_alloc ?_ _) | (with_reducible refine Kd.C_drewN ?_ _) | (with_reducible refine Kd.C_drew ?_))); (case side2 => exact HC1.out); rintro e w82 ⟨rfl, hb⟩; refine ⟨_, rfl, ?_⟩; have n0_ := zc.mk (zn (by (with_reducible repeat (first | refine zg ?_ _ | refine zi ?_ | refine zh ?_ _)); exact BK342.out) hb); have n1_ := zc.mk (zq (by repeat (first | (with_reducible first | exact HB.out | apply ze | apply zb | apply zd | refine zf ?_ GE342.out) | exact HB.out)) hb); clear BK342; clear HB; have BK342 := n0_; have HB := n1_; clear n0_ n1_; (try clear hb); (try clear hb2); (try clear hk); (try clear hi)))
 go_ret2
 exact ⟨_, by first | rfl | (simp [zj, zk] <;> rfl) | (simp [*, zj, zk] <;> rfl), by first | exact Kd.R_nil _ _ _ _ _ | exact Kd.N_nil _ _ _ _ _ | exact Kd.V_nil _ _ _ _ _ | exact Kd.Q_nil _ _ _ _ _ | exact Kd.S_nil _ _ _ _ _, by repeat (first | (with_reducible first | exact HB.out | apply ze | apply zb | apply zd | refine zf ?_ GE342.out) | exact HB.out)⟩
end Go.Proofs.Ytmmonhpjjjdnjaa.V
