/- The reference's hardest water. -/
import Derived.Test.YteciomagemjjaaaJx9
import Derived.Test.YteciomagemjjaaaJx10
import Derived.Test.YteciomagemjjaaaLFindJ
namespace Go.Proofs.Yteciomagemjjaaa.J
open Go.RowKit Go.Proofs.YteciomagemjjaaaW.PrintWords Go.Proofs.YteciomagemjjaaaW.PrintLast Go.Proofs.YteciomagemjjaaaW.PrintMore
attribute [local go_sem] zta zva zya zza zma zna zua zsa
set_option linter.unusedVariables false
set_option linter.unusedSimpArgs false
/-- The steps that l02Find finds. -/
def spec_l02FindS.f (k : Nat) (l0_0 : List Int) (a0_1 : Int) (a0_2 : Int) (a0_3 : Int) (a0_4 : Int) (a0_5 : Bool) : Option (List Int) := (spec_l02Find.f k l0_0 a0_1 a0_2 a0_3 a0_4 a0_5).map fun x => x.1
theorem findS_some {k : Nat} {l0_0 : List Int} {a0_1 a0_2 a0_3 a0_4 : Int} {a0_5 : Bool} {t : List Int} (h : spec_l02FindS.f k l0_0 a0_1 a0_2 a0_3 a0_4 a0_5 = some t) : ∃ r, spec_l02Find.f k l0_0 a0_1 a0_2 a0_3 a0_4 a0_5 = some r ∧ r.1 = t := Option.map_eq_some_iff.mp h
def spec_HardestWater.l0 : Nat → Int → Int → List Int → List Int → Int → Int → Int → Int → Bool → Option (Int × Int × Int × Int × Int × Int)
 | 0, _, _, _, _, _, _, _, _, _ => none
 | k + 1, x6, x7, x50, x203000, x203001, x203002, x203003, x203004, x203005 => if x7 < (x50.length : Int) then (if 0 ≤ x7 then (if 0 ≤ x6 then (if x6 < (x50.length : Int) then (if (rd x50 x7) > (rd x50 x6) then (spec_HardestWater.l0 k x7 (wrap64 (x7 + 1)) x50 x203000 x203001 x203002 x203003 x203004 x203005) else (spec_HardestWater.l0 k x6 (wrap64 (x7 + 1)) x50 x203000 x203001 x203002 x203003 x203004 x203005)) else (none)) else (none)) else (none)) else ((spec_l02At.f k x203000 x203001 x203002 x203003 x203004 x203005 x6).bind fun bt211 => (if 0 ≤ x6 then (if x6 < (x50.length : Int) then (some (bt211.1, bt211.2.1, bt211.2.2.1, bt211.2.2.2, wrap64 (rd x50 x6), 0)) else (none)) else (none)))
def spec_HardestWater.f (k : Nat) (l0_0 : List Int) (a0_1 : Int) (a0_2 : Int) (a0_3 : Int) (a0_4 : Int) (a0_5 : Bool) : Option (Int × Int × Int × Int × Int × Int) := (spec_l02Ok.f k l0_0 a0_1 a0_2 a0_3 a0_4 a0_5).bind fun t204 => (if t204 = true then ((spec_l02FindS.f k l0_0 a0_1 a0_2 a0_3 a0_4 a0_5).bind fun t205 => (spec_HardestWater.l0 k 0 1 t205 l0_0 a0_1 a0_2 a0_3 a0_4 a0_5)) else (some (0, 0, 0, 0, 0, 1)))
def spec_HardestWater.T8 : Bool × List (List Nat × List Nat) := (true, [([], []), ([0], [0]), ([1], [1]), ([2], [2]), ([], []), ([3, 4], [3, 4]), ([5], [5]), ([], []), ([7], [7]), ([8], [8]), ([9], [9]), ([], []), ([10, 11], [10, 11]), ([12], [12]), ([6, 13], [6, 13])])
def spec_HardestWater.B8 : List Nat := [0, 1, 3, 7, 0, 31, 63, 0, 128, 384, 896, 0, 3968, 8064, 16383]
theorem spec_HardestWater.tab8 : rtab .any (zke Try.f29 8) = spec_HardestWater.T8 := by kernel_rfl
theorem spec_HardestWater.bits8 : zpb spec_HardestWater.T8.2 spec_HardestWater.B8 = true := by kernel_rfl
def spec_HardestWater.T10 : Bool × List (List Nat × List Nat) := (true, [([], []), ([0], [0]), ([], []), ([2], [2]), ([3], [3]), ([4], [4]), ([], []), ([5, 6], [5, 6]), ([7], [7]), ([8], [8]), ([1, 1, 0, 1], [1]), ([9, 10, 0, 1, 2, 3, 4, 5, 6, 7, 8, 9, 10], [9]), ([11, 0, 1, 2, 3, 4, 5, 6, 7, 8, 9, 10, 11], [])])
def spec_HardestWater.B10 : List Nat := [0, 1, 0, 4, 12, 28, 0, 124, 252, 508, 3, 2047, 4095]
theorem spec_HardestWater.tab10 : rtab .any (zke Try.f29 10) = spec_HardestWater.T10 := by kernel_rfl
theorem spec_HardestWater.bits10 : zpb spec_HardestWater.T10.2 spec_HardestWater.B10 = true := by kernel_rfl
set_option maxHeartbeats 8000000 in
set_option maxRecDepth 100000 in
theorem spec_HardestWater.calls (k : Nat) (A0_0 : Option Addr) (c0_0 : Nat) (l0_0 : List Int) (a0_1 : Int) (a0_2 : Int) (a0_3 : Int) (a0_4 : Int) (a0_5 : Bool) (r1 : Int) (r2 : Int) (r3 : Int) (r4 : Int) (r5 : Int) (r6 : Int) (w : World) (hr0_0 : Kd.C (Kd.int .i16) w A0_0 l0_0.length l0_0) (hc0_0 : l0_0.length ≤ c0_0) (h : spec_HardestWater.f k l0_0 a0_1 a0_2 a0_3 a0_4 a0_5 = some (r1, r2, r3, r4, r5, r6)) :
  Calls Try.prog 29 #[.agg #[.slice A0_0 l0_0.length c0_0, .int .i16 a0_1, .int .i16 a0_2, .int .i16 a0_3, .int .i16 a0_4, .bool a0_5]] w fun e w' => e = .returned (.tuple #[.agg #[.int .i16 r1, .int .i16 r2, .int .i16 r3, .int .i16 r4], .int .i64 r5, .int .i64 r6]) ∧ Below w.heap.size w w' := by
 have hu29 := Try.underlying29
 have hu27 := Try.underlying27
 have HR0_0 := zh.mk hr0_0
 have HC0_0 := zh.mk hc0_0
 clear hr0_0 hc0_0
 have HB := zh.mk (Below.refl w.heap.size w)
 have H : ((spec_l02Ok.f k l0_0 a0_1 a0_2 a0_3 a0_4 a0_5).bind fun t204 => (if t204 = true then ((spec_l02FindS.f k l0_0 a0_1 a0_2 a0_3 a0_4 a0_5).bind fun t205 => (spec_HardestWater.l0 k 0 1 t205 l0_0 a0_1 a0_2 a0_3 a0_4 a0_5)) else (some (0, 0, 0, 0, 0, 1)))) = some (r1, r2, r3, r4, r5, r6) := h
 clear h
 replace H := Option.bind_eq_some_iff.mp H
 obtain ⟨t204, A20, H⟩ := H
 replace H : (if t204 = true then ((spec_l02FindS.f k l0_0 a0_1 a0_2 a0_3 a0_4 a0_5).bind fun t205 => (spec_HardestWater.l0 k 0 1 t205 l0_0 a0_1 a0_2 a0_3 a0_4 a0_5)) else (some (0, 0, 0, 0, 0, 1))) = some (r1, r2, r3, r4, r5, r6) := H
 have A2 := zh.mk A20
 clear A20
 by_cases c3 : t204 = true
 ·subst c3
  have H1 : ((spec_l02FindS.f k l0_0 a0_1 a0_2 a0_3 a0_4 a0_5).bind fun t205 => (spec_HardestWater.l0 k 0 1 t205 l0_0 a0_1 a0_2 a0_3 a0_4 a0_5)) = some (r1, r2, r3, r4, r5, r6) := by rw [if_pos rfl] at H; exact H
  clear H
  have H := H1
  clear H1
  replace H := Option.bind_eq_some_iff.mp H
  obtain ⟨t205, A40, H⟩ := H
  replace H : (spec_HardestWater.l0 k 0 1 t205 l0_0 a0_1 a0_2 a0_3 a0_4 a0_5) = some (r1, r2, r3, r4, r5, r6) := H
  have A4 := zh.mk A40
  clear A40
  have H' := zh.mk H
  clear H
  go_enter Try.func29, Try.ntmps29
  go_wp2_with (first | ((with_reducible refine zda (N := 1) rfl ?_); refine zca ?hg (N := 1) ?hd (cs := #[.slice A0_0 l0_0.length c0_0, .int .i16 a0_1, .int .i16 a0_2, .int .i16 a0_3, .int .i16 a0_4, .bool a0_5]) (t := 29) ?hr ?_; (case hd => rfl); (case hg => rfl); (case hr => first | (go_simp; done) | (go_simp; rfl)); intro gb202 hg w5 hbox hb; have n0_ := zh.mk (zo (by repeat (first | (with_reducible first | exact HB.out | apply zk | apply zg | apply zj) | exact HB.out)) hb); have n1_ := zh.mk (hbox); have n2_ := zh.mk ((by rw [hg]; exact (zq (by repeat (first | (with_reducible first | exact HB.out | apply zk | apply zg | apply zj) | exact HB.out))) : w.heap.size ≤ gb202)); have n3_ := n2_; clear HB; have HB := n0_; have BK202 := n1_; have GW202 := n2_; have GE202 := n3_; clear n0_ n1_ n2_ n3_; clear hb hbox hg) | ((with_reducible refine zda (N := 2) rfl ?_); refine zca ?hg (N := 2) ?hd (cs := #[.int .i16 0, .int .i16 0, .int .i16 0, .int .i16 0]) (t := 27) ?hr ?_; (case hd => rfl); (case hg => rfl); (case hr => first | (go_simp; done) | (go_simp; rfl)); intro gb203 hg w6 hbox hb; have n0_ := zh.mk (zm (by (with_reducible repeat (first | refine zc ?_ _ | refine zf ?_ | refine zb ?_ _)); exact BK202.out) hb); have n1_ := zh.mk (zo (by repeat (first | (with_reducible first | exact HB.out | apply zk | apply zg | apply zj | refine zi ?_ GE202.out) | exact HB.out)) hb); have n2_ := zh.mk (hbox); have n3_ := zh.mk ((by rw [hg]; exact (zq (by repeat (first | (with_reducible first | exact HB.out | apply zk | apply zg | apply zj | refine zi ?_ GE202.out) | exact HB.out))) : w.heap.size ≤ gb203)); have n4_ := n3_; have n5_ := zh.mk ((by rw [hg]; exact Nat.ne_of_lt (zfa (by (with_reducible repeat (first | refine zc ?_ _ | refine zf ?_ | refine zb ?_ _)); exact BK202.out)) : gb202 ≠ gb203)); have n6_ := zh.mk n5_.out.symm; clear BK202; clear HB; have BK202 := n0_; have HB := n1_; have BK203 := n2_; have GW203 := n3_; have GE203 := n4_; have NB202_203 := n5_; have NB203_202 := n6_; clear n0_ n1_ n2_ n3_ n4_ n5_ n6_; clear hb hbox hg) | ((with_reducible refine zba (f := 57) rfl ?_); refine zja (some 8) rfl rfl Try.func57 (by kernel_rfl) rfl #[.pointer (some ⟨gb202, 0, none⟩)] rfl (by (try simp only [List.map_toArray, List.map_cons, List.map_nil]); first | done | rfl | (simp only [List.length_drop, List.length_take]; rfl)) ?_; (with_reducible refine (spec_l02Ok.calls k gb202 A0_0 c0_0 l0_0 a0_1 a0_2 a0_3 a0_4 a0_5 true _ ?side1 ?side2 ?side3 A2.out).mono ?_); (case side1 => (with_reducible repeat (first | refine zc ?_ _ | refine zf ?_ | refine zb ?_ _)); exact BK202.out); (case side2 => repeat (first | exact (Kd.C_below HR0_0.out HB.out) | (with_reducible refine Kd.C_alloc ?_ _) | (with_reducible refine Kd.C_drewN ?_ _) | (with_reducible refine Kd.C_drew ?_))); (case side3 => exact HC0_0.out); rintro e w7 ⟨rfl, hb⟩; refine ⟨_, rfl, ?_⟩; have n0_ := zh.mk (zm (by (with_reducible repeat (first | refine zc ?_ _ | refine zf ?_ | refine zb ?_ _)); exact BK202.out) hb); have n1_ := zh.mk (zm (by (with_reducible repeat (first | refine zc ?_ _ | refine zf ?_ | refine zb ?_ _)); exact BK203.out) hb); have n2_ := zh.mk (zo (by repeat (first | (with_reducible first | exact HB.out | apply zk | apply zg | apply zj | refine zi ?_ GE202.out | refine zi ?_ GE203.out) | exact HB.out)) hb); clear BK202; clear BK203; clear HB; have BK202 := n0_; have BK203 := n1_; have HB := n2_; clear n0_ n1_ n2_; (try clear hb); (try clear hb2); (try clear hk); (try clear hi)) | ((with_reducible refine zba (f := 58) rfl ?_); refine zja (some 11) rfl rfl Try.func58 (by kernel_rfl) rfl #[.pointer (some ⟨gb202, 0, none⟩)] rfl (by (try simp only [List.map_toArray, List.map_cons, List.map_nil]); first | done | rfl | (simp only [List.length_drop, List.length_take]; rfl)) ?_; obtain ⟨t5r, hF5, hE5⟩ := findS_some A4.out; (with_reducible refine (spec_l02Find.calls k gb202 A0_0 c0_0 l0_0 a0_1 a0_2 a0_3 a0_4 a0_5 t5r _ ?side1 ?side2 ?side3 hF5).mono ?_); (case side1 => (with_reducible repeat (first | refine zc ?_ _ | refine zf ?_ | refine zb ?_ _)); exact BK202.out); (case side2 => repeat (first | exact (Kd.C_below HR0_0.out HB.out) | (with_reducible refine Kd.C_alloc ?_ _) | (with_reducible refine Kd.C_drewN ?_ _) | (with_reducible refine Kd.C_drew ?_))); (case side3 => exact HC0_0.out); rintro e w9 ⟨gb208, rfl, hge, v206, vF_, vB_, vO_, hbk, ho0, hr1_, hr2_, hr3_, hb⟩; refine ⟨_, rfl, ?_⟩; rw [hE5] at ho0; clear hr1_ hr2_ hr3_; have x1_ := zh.mk (hbk); have x2_ : zh (w.heap.size ≤ gb208) := ⟨Nat.le_trans (zq (by repeat (first | (with_reducible first | exact HB.out | apply zk | apply zg | apply zj | refine zi ?_ GE202.out | refine zi ?_ GE203.out) | exact HB.out))) hge⟩; have x3_ : zh (gb202 ≠ gb208) := ⟨Nat.ne_of_lt (Nat.lt_of_lt_of_le (zfa BK202.out) hge)⟩; have x4_ : zh (gb203 ≠ gb208) := ⟨Nat.ne_of_lt (Nat.lt_of_lt_of_le (zfa BK203.out) hge)⟩; have n0_ := zh.mk (Kd.R_lower ho0 (zq (by repeat (first | (with_reducible first | exact HB.out | apply zk | apply zg | apply zj | refine zi ?_ GE202.out | refine zi ?_ GE203.out) | exact HB.out)))); have n1_ := zh.mk (zm (by (with_reducible repeat (first | refine zc ?_ _ | refine zf ?_ | refine zb ?_ _)); exact BK202.out) hb); have n2_ := zh.mk (zm (by (with_reducible repeat (first | refine zc ?_ _ | refine zf ?_ | refine zb ?_ _)); exact BK203.out) hb); have n3_ := zh.mk (zo (by repeat (first | (with_reducible first | exact HB.out | apply zk | apply zg | apply zj | refine zi ?_ GE202.out | refine zi ?_ GE203.out) | exact HB.out)) hb); clear BK202; clear BK203; clear HB; have HO207 := n0_; have BK202 := n1_; have BK203 := n2_; have HB := n3_; clear n0_ n1_ n2_ n3_; have BK208 := x1_; have GE208 := x2_; have GW208 := x2_; have NB202_208 := x3_; have NB203_208 := x4_; have NB208_202 : zh (gb208 ≠ gb202) := ⟨fun e_ => x3_.out e_.symm⟩; have NB208_203 : zh (gb208 ≠ gb203) := ⟨fun e_ => x4_.out e_.symm⟩; clear x1_ x2_ x3_ x4_ hbk hge hE5 hF5; (try clear hb); (try clear hb2); (try clear hk); (try clear hi); (try clear ho0)))
  go_loopg [6, 7] k (fun kq v6 v7 w' => ∃ (x6_1 : Int) (x7_1 : Int), v6 = .int .i64 x6_1 ∧ v7 = .int .i64 x7_1 ∧ zh (spec_HardestWater.l0 kq x6_1 x7_1 t205 l0_0 a0_1 a0_2 a0_3 a0_4 a0_5 = some (r1, r2, r3, r4, r5, r6)) ∧ zh (kq ≤ k) ∧ zh (Kd.R (Kd.int .i16) 25 w' w.heap.size (fun _ => True) v206 t205) ∧ zh (w'.heap[gb202]? = some (.cells #[(.slice A0_0 l0_0.length c0_0), .int .i16 a0_1, .int .i16 a0_2, .int .i16 a0_3, .int .i16 a0_4, .bool a0_5] 29 (0, 0))) ∧ zh (w'.heap[gb203]? = some (.cells #[.int .i16 0, .int .i16 0, .int .i16 0, .int .i16 0] 27 (0, 0))) ∧ zh (w'.heap[gb208]? = some (.cells #[v206, vF_, vB_, vO_] 87 (0, 0))) ∧ zh (Below w.heap.size w w'))
  case atStart => exact ⟨(0), (1), (by first | rfl | (simp; done) | (simp [*]; done)), (by first | rfl | (simp; done) | (simp [*]; done)), H', ⟨Nat.le_refl _⟩, ⟨by (with_reducible repeat (first | apply Kd.R_alloc | apply Kd.R_drewN | apply Kd.R_drew)); exact HO207.out⟩, ⟨by (with_reducible repeat (first | refine zc ?_ _ | refine zf ?_ | refine zb ?_ _)); exact BK202.out⟩, ⟨by (with_reducible repeat (first | refine zc ?_ _ | refine zf ?_ | refine zb ?_ _)); exact BK203.out⟩, ⟨by (with_reducible repeat (first | refine zc ?_ _ | refine zf ?_ | refine zb ?_ _)); exact BK208.out⟩, ⟨by repeat (first | (with_reducible first | exact HB.out | apply zk | apply zg | apply zj | refine zi ?_ GE202.out | refine zi ?_ GE203.out | refine zi ?_ GE208.out) | exact HB.out)⟩⟩
  case round =>
   clear H'
   try clear c2
   try clear p2
   try clear c3
   try clear c5
   obtain ⟨x6_1, x7_1, rfl, rfl, HA, HK1, HO_50, BK202, BK203, BK208, HB⟩ := hrel
   cases gk with
   | zero => exact absurd HA.out (by simp [spec_HardestWater.l0])
   | succ k1 =>
    have H := HA.out
    clear HA
    simp only [spec_HardestWater.l0] at H
    by_cases c10 : x7_1 < (t205.length : Int)
    ·rw [if_pos c10] at H
     have c10b0 : decide (x7_1 < (t205.length : Int)) = true := decide_eq_true c10
     clear c10
     by_cases c11 : 0 ≤ x7_1
     ·rw [if_pos c11] at H
      have c11b0 : decide (0 ≤ x7_1) = true := decide_eq_true c11
      clear c11
      by_cases c12 : 0 ≤ x6_1
      ·rw [if_pos c12] at H
       have c12b0 : decide (0 ≤ x6_1) = true := decide_eq_true c12
       clear c12
       by_cases c13 : x6_1 < (t205.length : Int)
       ·rw [if_pos c13] at H
        have c13b0 : decide (x6_1 < (t205.length : Int)) = true := decide_eq_true c13
        clear c13
        by_cases c14 : (rd t205 x7_1) > (rd t205 x6_1)
        ·rw [if_pos c14] at H
         have c14b0 : decide ((rd t205 x6_1) < (rd t205 x7_1)) = true := decide_eq_true c14
         clear c14
         have H' := zh.mk H
         clear H
         have hnb15 := NB208_202.out
         have hnc15 := NB202_208.out
         have hnb16 := NB208_203.out
         have hnc16 := NB203_208.out
         have hcz17_0 := zub BK208.out
         have hfz17_0 := ze BK208.out 0
         obtain ⟨Ao18, co18, eo18⟩ := Kd.R_slice HO_50.out
         subst eo18
         try go_wp2
         have n0_ := zh.mk (Kd.R_drew HO_50.out)
         have n1_ := zh.mk (zf BK202.out)
         have n2_ := zh.mk (zf BK203.out)
         have n3_ := zh.mk (zf BK208.out)
         have n4_ := zh.mk (zj HB.out)
         clear HO_50
         clear BK202
         clear BK203
         clear BK208
         clear HB
         have HO_50 := n0_
         have BK202 := n1_
         have BK203 := n2_
         have BK208 := n3_
         have HB := n4_
         clear n0_ n1_ n2_ n3_ n4_
         have p209 : 0 ≤ (x7_1 : Int) := of_decide_eq_true (by first | (with_reducible assumption) | assumption)
         have q209 : x7_1 < (t205.length : Int) := of_decide_eq_true (by first | (with_reducible assumption) | assumption)
         obtain ⟨ad209, e209, hx209_0⟩ := Kd.at_int (Kd.R_reads' HO_50.out).2.2 x7_1 p209 q209
         cases e209
         replace p209 := eq_true p209
         replace q209 := eq_true q209
         have p210 : 0 ≤ (x6_1 : Int) := of_decide_eq_true (by first | (with_reducible assumption) | assumption)
         have q210 : x6_1 < (t205.length : Int) := of_decide_eq_true (by first | (with_reducible assumption) | assumption)
         obtain ⟨ad210, e210, hx210_0⟩ := Kd.at_int (Kd.R_reads' HO_50.out).2.2 x6_1 p210 q210
         obtain rfl : ad209 = ad210 := (by injection e210)
         replace p210 := eq_true p210
         replace q210 := eq_true q210
         refine zrb (n := 15) (S := fun w' => w'.cell? ⟨gb208, 0, none⟩ = some (.slice (some ad209) t205.length co18) ∧ w'.cell? (ad209.add (x7_1).toNat) = some (.int .i16 (rd t205 x7_1)) ∧ w'.cell? (ad209.add (x6_1).toNat) = some (.int .i16 (rd t205 x6_1))) (ds := []) #[false, false, false, false, false, false, false, false, false, false, false, false, false, false, false] (by kernel_rfl) rfl rfl ⟨zub BK208.out, hx209_0, hx210_0⟩ (fun hHeld => ?_); refine zab spec_HardestWater.tab8 spec_HardestWater.bits8 (fun HT_ HW_ => ?_)
         generalize wr.drew = w19 at HO_50 BK202 BK203 BK208 HB hx209_0 hx210_0 hHeld ⊢
         refine zea (i := 0) (N := some 21) (v := ?_) (a' := ?_) #[true, false, false, false, false, false, false, false, false, false, false, false, false, false, false] rfl rfl (zaa HT_.out (by kernel_rfl)) (fun _ _ _ h => h) (Or.inl ⟨by rfl, ?_⟩) ?_ ?_
         rotate_left
         ·intro w'
          go_simp
          with_reducible rfl
         rotate_left
         ·simp only [Act.put, List.setIfInBounds_toArray, List.set_cons_zero, List.set_cons_succ, zu, zz]
          rfl
         refine zea (i := 1) (N := some 22) (v := ?_) (a' := ?_) #[true, true, false, false, false, false, false, false, false, false, false, false, false, false, false] rfl rfl (zaa HT_.out (by kernel_rfl)) (fun _ _ _ h => h) (Or.inl ⟨by rfl, ?_⟩) ?_ ?_
         rotate_left
         ·intro w'
          go_simp
          with_reducible rfl
         rotate_left
         ·simp only [Act.put, List.setIfInBounds_toArray, List.set_cons_zero, List.set_cons_succ, zu, zz]
          rfl
         refine zea (i := 2) (N := some 23) (v := ?_) (a' := ?_) #[true, true, true, false, false, false, false, false, false, false, false, false, false, false, false] rfl rfl (zaa HT_.out (by kernel_rfl)) (fun _ _ _ h => h) (Or.inl ⟨by rfl, ?_⟩) ?_ ?_
         rotate_left
         ·intro w'
          go_simp
          with_reducible rfl
         rotate_left
         ·simp only [Act.put, List.setIfInBounds_toArray, List.set_cons_zero, List.set_cons_succ, zu, zz]
          rfl
         refine zea (i := 4) (N := some 25) (v := ?_) (a' := ?_) #[true, true, true, false, true, false, false, false, false, false, false, false, false, false, false] rfl rfl (zaa HT_.out (by kernel_rfl)) (fun _ _ _ h => h) (Or.inl ⟨by rfl, ?_⟩) ?_ ?_
         rotate_left
         ·intro w'
          go_simp
          with_reducible rfl
         rotate_left
         ·simp only [Act.put, List.setIfInBounds_toArray, List.set_cons_zero, List.set_cons_succ, zu, zz]
          rfl
         refine zea (i := 7) (N := some 28) (v := ?_) (a' := ?_) #[true, true, true, false, true, false, false, true, false, false, false, false, false, false, false] rfl rfl (zaa HT_.out (by kernel_rfl)) (fun _ _ _ h => h) (Or.inl ⟨by rfl, ?_⟩) ?_ ?_
         rotate_left
         ·intro w'
          go_simp
          with_reducible rfl
         rotate_left
         ·simp only [Act.put, List.setIfInBounds_toArray, List.set_cons_zero, List.set_cons_succ, zu, zz]
          rfl
         refine zea (i := 8) (N := some 29) (v := ?_) (a' := ?_) #[true, true, true, false, true, false, false, true, true, false, false, false, false, false, false] rfl rfl (zaa HT_.out (by kernel_rfl)) (fun _ _ _ h => h) (Or.inl ⟨by rfl, ?_⟩) ?_ ?_
         rotate_left
         ·intro w'
          go_simp
          with_reducible rfl
         rotate_left
         ·simp only [Act.put, List.setIfInBounds_toArray, List.set_cons_zero, List.set_cons_succ, zu, zz]
          rfl
         refine zea (i := 9) (N := some 30) (v := ?_) (a' := ?_) #[true, true, true, false, true, false, false, true, true, true, false, false, false, false, false] rfl rfl (zaa HT_.out (by kernel_rfl)) (fun _ _ _ h => h) (Or.inl ⟨by rfl, ?_⟩) ?_ ?_
         rotate_left
         ·intro w'
          go_simp
          with_reducible rfl
         rotate_left
         ·simp only [Act.put, List.setIfInBounds_toArray, List.set_cons_zero, List.set_cons_succ, zu, zz]
          rfl
         refine zea (i := 11) (N := some 32) (v := ?_) (a' := ?_) #[true, true, true, false, true, false, false, true, true, true, false, true, false, false, false] rfl rfl (zaa HT_.out (by kernel_rfl)) (fun _ _ _ h => h) (Or.inl ⟨by rfl, ?_⟩) ?_ ?_
         rotate_left
         ·intro w'
          go_simp
          with_reducible rfl
         rotate_left
         ·simp only [Act.put, List.setIfInBounds_toArray, List.set_cons_zero, List.set_cons_succ, zu, zz]
          rfl
         refine take_ (i := 3) (N := some 24) (v := ?_) (a' := ?_) #[true, true, true, true, true, false, false, true, true, true, false, true, false, false, false] rfl rfl (zia HT_.out HW_.out (by kernel_rfl)) (fun _ _ _ h => h) (Or.inl ⟨by rfl, ?_⟩) hHeld ?_ ?_
         rotate_left
         ·rintro w' ⟨s0, s1, s2⟩
          go_simp
          with_reducible rfl
         rotate_left
         ·simp only [Act.put, List.setIfInBounds_toArray, List.set_cons_zero, List.set_cons_succ, zu, zz]
          rfl
         refine zea (i := 5) (N := some 26) (v := ?_) (a' := ?_) #[true, true, true, true, true, true, false, true, true, true, false, true, false, false, false] rfl rfl (zaa HT_.out (by kernel_rfl)) (fun _ _ _ h => h) (Or.inl ⟨by rfl, ?_⟩) ?_ ?_
         rotate_left
         ·intro w'
          go_simp
          with_reducible rfl
         rotate_left
         ·simp only [Act.put, List.setIfInBounds_toArray, List.set_cons_zero, List.set_cons_succ, zu, zz]
          rfl
         refine take_ (i := 6) (N := some 27) (v := ?_) (a' := ?_) #[true, true, true, true, true, true, true, true, true, true, false, true, false, false, false] rfl rfl (zia HT_.out HW_.out (by kernel_rfl)) (fun _ _ _ h => h) (Or.inl ⟨by rfl, ?_⟩) hHeld ?_ ?_
         rotate_left
         ·rintro w' ⟨s0, s1, s2⟩
          go_simp
          with_reducible rfl
         rotate_left
         ·simp only [Act.put, List.setIfInBounds_toArray, List.set_cons_zero, List.set_cons_succ, zu, zz]
          rfl
         refine take_ (i := 10) (N := some 31) (v := ?_) (a' := ?_) #[true, true, true, true, true, true, true, true, true, true, true, true, false, false, false] rfl rfl (zia HT_.out HW_.out (by kernel_rfl)) (fun _ _ _ h => h) (Or.inl ⟨by rfl, ?_⟩) hHeld ?_ ?_
         rotate_left
         ·rintro w' ⟨s0, s1, s2⟩
          go_simp
          with_reducible rfl
         rotate_left
         ·simp only [Act.put, List.setIfInBounds_toArray, List.set_cons_zero, List.set_cons_succ, zu, zz]
          rfl
         refine zea (i := 12) (N := some 33) (v := ?_) (a' := ?_) #[true, true, true, true, true, true, true, true, true, true, true, true, true, false, false] rfl rfl (zaa HT_.out (by kernel_rfl)) (fun _ _ _ h => h) (Or.inl ⟨by rfl, ?_⟩) ?_ ?_
         rotate_left
         ·intro w'
          go_simp
          with_reducible rfl
         rotate_left
         ·simp only [Act.put, List.setIfInBounds_toArray, List.set_cons_zero, List.set_cons_succ, zu, zz]
          rfl
         refine take_ (i := 13) (N := some 34) (v := ?_) (a' := ?_) #[true, true, true, true, true, true, true, true, true, true, true, true, true, true, false] rfl rfl (zia HT_.out HW_.out (by kernel_rfl)) (fun _ _ _ h => h) (Or.inl ⟨by rfl, ?_⟩) hHeld ?_ ?_
         rotate_left
         ·rintro w' ⟨s0, s1, s2⟩
          go_simp
          with_reducible rfl
         rotate_left
         ·simp only [Act.put, List.setIfInBounds_toArray, List.set_cons_zero, List.set_cons_succ, zu, zz]
          rfl
         refine zea (i := 14) (N := some 35) (v := ?_) (a' := ?_) #[true, true, true, true, true, true, true, true, true, true, true, true, true, true, true] rfl rfl (zaa HT_.out (by kernel_rfl)) (fun _ _ _ h => h) (Or.inl ⟨by rfl, ?_⟩) ?_ ?_
         rotate_left
         ·intro w'
          go_simp
          with_reducible rfl
         rotate_left
         ·simp only [Act.put, List.setIfInBounds_toArray, List.set_cons_zero, List.set_cons_succ, zu, zz]
          rfl
         refine zmc (znb HT_.out (by kernel_rfl)) ?_
         try go_wp2
         go_roundg k1
         case measure => have := HK1.out; omega
         case rel => exact ⟨(x7_1), (wrap64 (x7_1 + 1)), (by first | rfl | (simp; done) | (simp [*]; done)), (by first | rfl | (simp; done) | (simp [*]; done)), H', ⟨by have := HK1.out; omega⟩, ⟨by (with_reducible repeat (first | apply Kd.R_alloc | apply Kd.R_drewN | apply Kd.R_drew)); exact HO_50.out⟩, ⟨by (with_reducible repeat (first | refine zc ?_ _ | refine zf ?_ | refine zb ?_ _)); exact BK202.out⟩, ⟨by (with_reducible repeat (first | refine zc ?_ _ | refine zf ?_ | refine zb ?_ _)); exact BK203.out⟩, ⟨by (with_reducible repeat (first | refine zc ?_ _ | refine zf ?_ | refine zb ?_ _)); exact BK208.out⟩, ⟨by repeat (first | (with_reducible first | exact HB.out | apply zk | apply zg | apply zj | refine zi ?_ GE202.out | refine zi ?_ GE203.out | refine zi ?_ GE208.out) | exact HB.out)⟩⟩
        rw [if_neg c14] at H
        have c14b0 : decide ((rd t205 x6_1) < (rd t205 x7_1)) = false := decide_eq_false c14
        clear c14
        have H' := zh.mk H
        clear H
        have hnb20 := NB208_202.out
        have hnc20 := NB202_208.out
        have hnb21 := NB208_203.out
        have hnc21 := NB203_208.out
        have hcz22_0 := zub BK208.out
        have hfz22_0 := ze BK208.out 0
        obtain ⟨Ao23, co23, eo23⟩ := Kd.R_slice HO_50.out
        subst eo23
        try go_wp2
        have n0_ := zh.mk (Kd.R_drew HO_50.out)
        have n1_ := zh.mk (zf BK202.out)
        have n2_ := zh.mk (zf BK203.out)
        have n3_ := zh.mk (zf BK208.out)
        have n4_ := zh.mk (zj HB.out)
        clear HO_50
        clear BK202
        clear BK203
        clear BK208
        clear HB
        have HO_50 := n0_
        have BK202 := n1_
        have BK203 := n2_
        have BK208 := n3_
        have HB := n4_
        clear n0_ n1_ n2_ n3_ n4_
        have p209 : 0 ≤ (x7_1 : Int) := of_decide_eq_true (by first | (with_reducible assumption) | assumption)
        have q209 : x7_1 < (t205.length : Int) := of_decide_eq_true (by first | (with_reducible assumption) | assumption)
        obtain ⟨ad209, e209, hx209_0⟩ := Kd.at_int (Kd.R_reads' HO_50.out).2.2 x7_1 p209 q209
        cases e209
        replace p209 := eq_true p209
        replace q209 := eq_true q209
        have p210 : 0 ≤ (x6_1 : Int) := of_decide_eq_true (by first | (with_reducible assumption) | assumption)
        have q210 : x6_1 < (t205.length : Int) := of_decide_eq_true (by first | (with_reducible assumption) | assumption)
        obtain ⟨ad210, e210, hx210_0⟩ := Kd.at_int (Kd.R_reads' HO_50.out).2.2 x6_1 p210 q210
        obtain rfl : ad209 = ad210 := (by injection e210)
        replace p210 := eq_true p210
        replace q210 := eq_true q210
        refine zrb (n := 15) (S := fun w' => w'.cell? ⟨gb208, 0, none⟩ = some (.slice (some ad209) t205.length co23) ∧ w'.cell? (ad209.add (x7_1).toNat) = some (.int .i16 (rd t205 x7_1)) ∧ w'.cell? (ad209.add (x6_1).toNat) = some (.int .i16 (rd t205 x6_1))) (ds := []) #[false, false, false, false, false, false, false, false, false, false, false, false, false, false, false] (by kernel_rfl) rfl rfl ⟨zub BK208.out, hx209_0, hx210_0⟩ (fun hHeld => ?_); refine zab spec_HardestWater.tab8 spec_HardestWater.bits8 (fun HT_ HW_ => ?_)
        generalize wr.drew = w24 at HO_50 BK202 BK203 BK208 HB hx209_0 hx210_0 hHeld ⊢
        refine zea (i := 0) (N := some 21) (v := ?_) (a' := ?_) #[true, false, false, false, false, false, false, false, false, false, false, false, false, false, false] rfl rfl (zaa HT_.out (by kernel_rfl)) (fun _ _ _ h => h) (Or.inl ⟨by rfl, ?_⟩) ?_ ?_
        rotate_left
        ·intro w'
         go_simp
         with_reducible rfl
        rotate_left
        ·simp only [Act.put, List.setIfInBounds_toArray, List.set_cons_zero, List.set_cons_succ, zu, zz]
         rfl
        refine zea (i := 1) (N := some 22) (v := ?_) (a' := ?_) #[true, true, false, false, false, false, false, false, false, false, false, false, false, false, false] rfl rfl (zaa HT_.out (by kernel_rfl)) (fun _ _ _ h => h) (Or.inl ⟨by rfl, ?_⟩) ?_ ?_
        rotate_left
        ·intro w'
         go_simp
         with_reducible rfl
        rotate_left
        ·simp only [Act.put, List.setIfInBounds_toArray, List.set_cons_zero, List.set_cons_succ, zu, zz]
         rfl
        refine zea (i := 2) (N := some 23) (v := ?_) (a' := ?_) #[true, true, true, false, false, false, false, false, false, false, false, false, false, false, false] rfl rfl (zaa HT_.out (by kernel_rfl)) (fun _ _ _ h => h) (Or.inl ⟨by rfl, ?_⟩) ?_ ?_
        rotate_left
        ·intro w'
         go_simp
         with_reducible rfl
        rotate_left
        ·simp only [Act.put, List.setIfInBounds_toArray, List.set_cons_zero, List.set_cons_succ, zu, zz]
         rfl
        refine zea (i := 4) (N := some 25) (v := ?_) (a' := ?_) #[true, true, true, false, true, false, false, false, false, false, false, false, false, false, false] rfl rfl (zaa HT_.out (by kernel_rfl)) (fun _ _ _ h => h) (Or.inl ⟨by rfl, ?_⟩) ?_ ?_
        rotate_left
        ·intro w'
         go_simp
         with_reducible rfl
        rotate_left
        ·simp only [Act.put, List.setIfInBounds_toArray, List.set_cons_zero, List.set_cons_succ, zu, zz]
         rfl
        refine zea (i := 7) (N := some 28) (v := ?_) (a' := ?_) #[true, true, true, false, true, false, false, true, false, false, false, false, false, false, false] rfl rfl (zaa HT_.out (by kernel_rfl)) (fun _ _ _ h => h) (Or.inl ⟨by rfl, ?_⟩) ?_ ?_
        rotate_left
        ·intro w'
         go_simp
         with_reducible rfl
        rotate_left
        ·simp only [Act.put, List.setIfInBounds_toArray, List.set_cons_zero, List.set_cons_succ, zu, zz]
         rfl
        refine zea (i := 8) (N := some 29) (v := ?_) (a' := ?_) #[true, true, true, false, true, false, false, true, true, false, false, false, false, false, false] rfl rfl (zaa HT_.out (by kernel_rfl)) (fun _ _ _ h => h) (Or.inl ⟨by rfl, ?_⟩) ?_ ?_
        rotate_left
        ·intro w'
         go_simp
         with_reducible rfl
        rotate_left
        ·simp only [Act.put, List.setIfInBounds_toArray, List.set_cons_zero, List.set_cons_succ, zu, zz]
         rfl
        refine zea (i := 9) (N := some 30) (v := ?_) (a' := ?_) #[true, true, true, false, true, false, false, true, true, true, false, false, false, false, false] rfl rfl (zaa HT_.out (by kernel_rfl)) (fun _ _ _ h => h) (Or.inl ⟨by rfl, ?_⟩) ?_ ?_
        rotate_left
        ·intro w'
         go_simp
         with_reducible rfl
        rotate_left
        ·simp only [Act.put, List.setIfInBounds_toArray, List.set_cons_zero, List.set_cons_succ, zu, zz]
         rfl
        refine zea (i := 11) (N := some 32) (v := ?_) (a' := ?_) #[true, true, true, false, true, false, false, true, true, true, false, true, false, false, false] rfl rfl (zaa HT_.out (by kernel_rfl)) (fun _ _ _ h => h) (Or.inl ⟨by rfl, ?_⟩) ?_ ?_
        rotate_left
        ·intro w'
         go_simp
         with_reducible rfl
        rotate_left
        ·simp only [Act.put, List.setIfInBounds_toArray, List.set_cons_zero, List.set_cons_succ, zu, zz]
         rfl
        refine take_ (i := 3) (N := some 24) (v := ?_) (a' := ?_) #[true, true, true, true, true, false, false, true, true, true, false, true, false, false, false] rfl rfl (zia HT_.out HW_.out (by kernel_rfl)) (fun _ _ _ h => h) (Or.inl ⟨by rfl, ?_⟩) hHeld ?_ ?_
        rotate_left
        ·rintro w' ⟨s0, s1, s2⟩
         go_simp
         with_reducible rfl
        rotate_left
        ·simp only [Act.put, List.setIfInBounds_toArray, List.set_cons_zero, List.set_cons_succ, zu, zz]
         rfl
        refine zea (i := 5) (N := some 26) (v := ?_) (a' := ?_) #[true, true, true, true, true, true, false, true, true, true, false, true, false, false, false] rfl rfl (zaa HT_.out (by kernel_rfl)) (fun _ _ _ h => h) (Or.inl ⟨by rfl, ?_⟩) ?_ ?_
        rotate_left
        ·intro w'
         go_simp
         with_reducible rfl
        rotate_left
        ·simp only [Act.put, List.setIfInBounds_toArray, List.set_cons_zero, List.set_cons_succ, zu, zz]
         rfl
        refine take_ (i := 6) (N := some 27) (v := ?_) (a' := ?_) #[true, true, true, true, true, true, true, true, true, true, false, true, false, false, false] rfl rfl (zia HT_.out HW_.out (by kernel_rfl)) (fun _ _ _ h => h) (Or.inl ⟨by rfl, ?_⟩) hHeld ?_ ?_
        rotate_left
        ·rintro w' ⟨s0, s1, s2⟩
         go_simp
         with_reducible rfl
        rotate_left
        ·simp only [Act.put, List.setIfInBounds_toArray, List.set_cons_zero, List.set_cons_succ, zu, zz]
         rfl
        refine take_ (i := 10) (N := some 31) (v := ?_) (a' := ?_) #[true, true, true, true, true, true, true, true, true, true, true, true, false, false, false] rfl rfl (zia HT_.out HW_.out (by kernel_rfl)) (fun _ _ _ h => h) (Or.inl ⟨by rfl, ?_⟩) hHeld ?_ ?_
        rotate_left
        ·rintro w' ⟨s0, s1, s2⟩
         go_simp
         with_reducible rfl
        rotate_left
        ·simp only [Act.put, List.setIfInBounds_toArray, List.set_cons_zero, List.set_cons_succ, zu, zz]
         rfl
        refine zea (i := 12) (N := some 33) (v := ?_) (a' := ?_) #[true, true, true, true, true, true, true, true, true, true, true, true, true, false, false] rfl rfl (zaa HT_.out (by kernel_rfl)) (fun _ _ _ h => h) (Or.inl ⟨by rfl, ?_⟩) ?_ ?_
        rotate_left
        ·intro w'
         go_simp
         with_reducible rfl
        rotate_left
        ·simp only [Act.put, List.setIfInBounds_toArray, List.set_cons_zero, List.set_cons_succ, zu, zz]
         rfl
        refine take_ (i := 13) (N := some 34) (v := ?_) (a' := ?_) #[true, true, true, true, true, true, true, true, true, true, true, true, true, true, false] rfl rfl (zia HT_.out HW_.out (by kernel_rfl)) (fun _ _ _ h => h) (Or.inl ⟨by rfl, ?_⟩) hHeld ?_ ?_
        rotate_left
        ·rintro w' ⟨s0, s1, s2⟩
         go_simp
         with_reducible rfl
        rotate_left
        ·simp only [Act.put, List.setIfInBounds_toArray, List.set_cons_zero, List.set_cons_succ, zu, zz]
         rfl
        refine zea (i := 14) (N := some 35) (v := ?_) (a' := ?_) #[true, true, true, true, true, true, true, true, true, true, true, true, true, true, true] rfl rfl (zaa HT_.out (by kernel_rfl)) (fun _ _ _ h => h) (Or.inl ⟨by rfl, ?_⟩) ?_ ?_
        rotate_left
        ·intro w'
         go_simp
         with_reducible rfl
        rotate_left
        ·simp only [Act.put, List.setIfInBounds_toArray, List.set_cons_zero, List.set_cons_succ, zu, zz]
         rfl
        refine zmc (znb HT_.out (by kernel_rfl)) ?_
        try go_wp2
        go_roundg k1
        case measure => have := HK1.out; omega
        case rel => exact ⟨(x6_1), (wrap64 (x7_1 + 1)), (by first | rfl | (simp; done) | (simp [*]; done)), (by first | rfl | (simp; done) | (simp [*]; done)), H', ⟨by have := HK1.out; omega⟩, ⟨by (with_reducible repeat (first | apply Kd.R_alloc | apply Kd.R_drewN | apply Kd.R_drew)); exact HO_50.out⟩, ⟨by (with_reducible repeat (first | refine zc ?_ _ | refine zf ?_ | refine zb ?_ _)); exact BK202.out⟩, ⟨by (with_reducible repeat (first | refine zc ?_ _ | refine zf ?_ | refine zb ?_ _)); exact BK203.out⟩, ⟨by (with_reducible repeat (first | refine zc ?_ _ | refine zf ?_ | refine zb ?_ _)); exact BK208.out⟩, ⟨by repeat (first | (with_reducible first | exact HB.out | apply zk | apply zg | apply zj | refine zi ?_ GE202.out | refine zi ?_ GE203.out | refine zi ?_ GE208.out) | exact HB.out)⟩⟩
       rw [if_neg c13] at H
       exact absurd H (by simp)
      rw [if_neg c12] at H
      exact absurd H (by simp)
     rw [if_neg c11] at H
     exact absurd H (by simp)
    rw [if_neg c10] at H
    have c10b0 : decide (x7_1 < (t205.length : Int)) = false := decide_eq_false c10
    clear c10
    replace H := Option.bind_eq_some_iff.mp H
    obtain ⟨⟨t211, t212, t213, t214⟩, A250, H⟩ := H
    replace H : (if 0 ≤ x6_1 then (if x6_1 < (t205.length : Int) then (some (t211, t212, t213, t214, wrap64 (rd t205 x6_1), 0)) else (none)) else (none)) = some (r1, r2, r3, r4, r5, r6) := H
    have A25 := zh.mk A250
    clear A250
    by_cases c26 : 0 ≤ x6_1
    ·rw [if_pos c26] at H
     have c26b0 : decide (0 ≤ x6_1) = true := decide_eq_true c26
     clear c26
     by_cases c27 : x6_1 < (t205.length : Int)
     ·rw [if_pos c27] at H
      have c27b0 : decide (x6_1 < (t205.length : Int)) = true := decide_eq_true c27
      clear c27
      simp only [Option.some.injEq, Prod.mk.injEq] at H
      obtain ⟨rfl, rfl, rfl, rfl, rfl, rfl⟩ := H
      have hnb28 := NB208_202.out
      have hnc28 := NB202_208.out
      have hnb29 := NB208_203.out
      have hnc29 := NB203_208.out
      have hcz30_0 := zub BK208.out
      have hfz30_0 := ze BK208.out 0
      obtain ⟨Ao31, co31, eo31⟩ := Kd.R_slice HO_50.out
      subst eo31
      try go_wp2
      have n0_ := zh.mk (Kd.R_drew HO_50.out)
      have n1_ := zh.mk (zf BK202.out)
      have n2_ := zh.mk (zf BK203.out)
      have n3_ := zh.mk (zf BK208.out)
      have n4_ := zh.mk (zj HB.out)
      clear HO_50
      clear BK202
      clear BK203
      clear BK208
      clear HB
      have HO_50 := n0_
      have BK202 := n1_
      have BK203 := n2_
      have BK208 := n3_
      have HB := n4_
      clear n0_ n1_ n2_ n3_ n4_
      have p215 : 0 ≤ (x6_1 : Int) := of_decide_eq_true (by first | (with_reducible assumption) | assumption)
      have q215 : x6_1 < (t205.length : Int) := of_decide_eq_true (by first | (with_reducible assumption) | assumption)
      obtain ⟨ad215, e215, hx215_0⟩ := Kd.at_int (Kd.R_reads' HO_50.out).2.2 x6_1 p215 q215
      cases e215
      replace p215 := eq_true p215
      replace q215 := eq_true q215
      refine zrb (n := 13) (S := fun w' => w'.cell? ⟨gb208, 0, none⟩ = some (.slice (some ad215) t205.length co31) ∧ w'.cell? (ad215.add (x6_1).toNat) = some (.int .i16 (rd t205 x6_1))) (ds := []) #[false, false, false, false, false, false, false, false, false, false, false, false, false] (by kernel_rfl) rfl rfl ⟨zub BK208.out, hx215_0⟩ (fun hHeld => ?_); refine zab spec_HardestWater.tab10 spec_HardestWater.bits10 (fun HT_ HW_ => ?_)
      generalize wr.drew = w32 at HO_50 BK202 BK203 BK208 HB hx215_0 hHeld ⊢
      refine zea (i := 0) (N := some 37) (v := ?_) (a' := ?_) #[true, false, false, false, false, false, false, false, false, false, false, false, false] rfl rfl (zaa HT_.out (by kernel_rfl)) (fun _ _ _ h => h) (Or.inl ⟨by rfl, ?_⟩) ?_ ?_
      rotate_left
      ·intro w'
       go_simp
       with_reducible rfl
      rotate_left
      ·simp only [Act.put, List.setIfInBounds_toArray, List.set_cons_zero, List.set_cons_succ, zu, zz]
       rfl
      refine zea (i := 2) (N := some 39) (v := ?_) (a' := ?_) #[true, false, true, false, false, false, false, false, false, false, false, false, false] rfl rfl (zaa HT_.out (by kernel_rfl)) (fun _ _ _ h => h) (Or.inl ⟨by rfl, ?_⟩) ?_ ?_
      rotate_left
      ·intro w'
       go_simp
       with_reducible rfl
      rotate_left
      ·simp only [Act.put, List.setIfInBounds_toArray, List.set_cons_zero, List.set_cons_succ, zu, zz]
       rfl
      refine zea (i := 3) (N := some 40) (v := ?_) (a' := ?_) #[true, false, true, true, false, false, false, false, false, false, false, false, false] rfl rfl (zaa HT_.out (by kernel_rfl)) (fun _ _ _ h => h) (Or.inl ⟨by rfl, ?_⟩) ?_ ?_
      rotate_left
      ·intro w'
       go_simp
       with_reducible rfl
      rotate_left
      ·simp only [Act.put, List.setIfInBounds_toArray, List.set_cons_zero, List.set_cons_succ, zu, zz]
       rfl
      refine zea (i := 4) (N := some 41) (v := ?_) (a' := ?_) #[true, false, true, true, true, false, false, false, false, false, false, false, false] rfl rfl (zaa HT_.out (by kernel_rfl)) (fun _ _ _ h => h) (Or.inl ⟨by rfl, ?_⟩) ?_ ?_
      rotate_left
      ·intro w'
       go_simp
       with_reducible rfl
      rotate_left
      ·simp only [Act.put, List.setIfInBounds_toArray, List.set_cons_zero, List.set_cons_succ, zu, zz]
       rfl
      refine zea (i := 6) (N := some 43) (v := ?_) (a' := ?_) #[true, false, true, true, true, false, true, false, false, false, false, false, false] rfl rfl (zaa HT_.out (by kernel_rfl)) (fun _ _ _ h => h) (Or.inl ⟨by rfl, ?_⟩) ?_ ?_
      rotate_left
      ·intro w'
       go_simp
       with_reducible rfl
      rotate_left
      ·simp only [Act.put, List.setIfInBounds_toArray, List.set_cons_zero, List.set_cons_succ, zu, zz]
       rfl
      refine take_ (i := 5) (N := some 42) (v := ?_) (a' := ?_) #[true, false, true, true, true, true, true, false, false, false, false, false, false] rfl rfl (zia HT_.out HW_.out (by kernel_rfl)) (fun _ _ _ h => h) (Or.inl ⟨by rfl, ?_⟩) hHeld ?_ ?_
      rotate_left
      ·rintro w' ⟨s0, s1⟩
       go_simp
       with_reducible rfl
      rotate_left
      ·simp only [Act.put, List.setIfInBounds_toArray, List.set_cons_zero, List.set_cons_succ, zu, zz]
       rfl
      refine zea (i := 7) (N := some 44) (v := ?_) (a' := ?_) #[true, false, true, true, true, true, true, true, false, false, false, false, false] rfl rfl (zaa HT_.out (by kernel_rfl)) (fun _ _ _ h => h) (Or.inl ⟨by rfl, ?_⟩) ?_ ?_
      rotate_left
      ·intro w'
       go_simp
       with_reducible rfl
      rotate_left
      ·simp only [Act.put, List.setIfInBounds_toArray, List.set_cons_zero, List.set_cons_succ, zu, zz]
       rfl
      refine take_ (i := 8) (N := some 45) (v := ?_) (a' := ?_) #[true, false, true, true, true, true, true, true, true, false, false, false, false] rfl rfl (zia HT_.out HW_.out (by kernel_rfl)) (fun _ _ _ h => h) (Or.inl ⟨by rfl, ?_⟩) hHeld ?_ ?_
      rotate_left
      ·rintro w' ⟨s0, s1⟩
       go_simp
       with_reducible rfl
      rotate_left
      ·simp only [Act.put, List.setIfInBounds_toArray, List.set_cons_zero, List.set_cons_succ, zu, zz]
       rfl
      refine zea (i := 9) (N := some 46) (v := ?_) (a' := ?_) #[true, false, true, true, true, true, true, true, true, true, false, false, false] rfl rfl (zaa HT_.out (by kernel_rfl)) (fun _ _ _ h => h) (Or.inl ⟨by rfl, ?_⟩) ?_ ?_
      rotate_left
      ·intro w'
       go_simp
       with_reducible rfl
      rotate_left
      ·simp only [Act.put, List.setIfInBounds_toArray, List.set_cons_zero, List.set_cons_succ, zu, zz]
       rfl
      refine one_ (i := 1) (N := some 38) #[true, true, true, true, true, true, true, true, true, true, false, false, false] rfl rfl (zgb HT_.out (by kernel_rfl)) (by decide) (fun K hK => ?_)
      refine zbd Try.func74 (by kernel_rfl) rfl #[.pointer (some ⟨gb202, 0, none⟩), .int .i64 x6_1] (by rfl) rfl rfl (by (try simp only [List.map_toArray, List.map_cons, List.map_nil]); first | done | rfl | (simp only [List.length_drop, List.length_take]; rfl)) ?_
      with_reducible refine (spec_l02At.calls k1 gb202 A0_0 c0_0 l0_0 a0_1 a0_2 a0_3 a0_4 a0_5 x6_1 t211 t212 t213 t214 _ ?side1 ?side2 ?side3 A25.out).mono ?_
      (case side1 => (with_reducible repeat (first | refine zc ?_ _ | refine zf ?_ | refine zb ?_ _)); exact BK202.out)
      (case side2 => repeat (first | exact (Kd.C_below HR0_0.out HB.out) | (with_reducible refine Kd.C_alloc ?_ _) | (with_reducible refine Kd.C_drewN ?_ _) | (with_reducible refine Kd.C_drew ?_)))
      (case side3 => exact HC0_0.out)
      rintro e w33 ⟨rfl, hb⟩
      have HS1_ := (hb.cell (World.block_lt_of_cell? _ _ (hHeld.2))).trans (hHeld.2)
      refine ⟨_, rfl, ?_⟩
      have n0_ := zh.mk (Kd.R_below (by (with_reducible repeat (first | apply Kd.R_alloc | apply Kd.R_drewN | apply Kd.R_drew)); exact HO_50.out) hb)
      have n1_ := zh.mk (zm (by (with_reducible repeat (first | refine zc ?_ _ | refine zf ?_ | refine zb ?_ _)); exact BK202.out) hb)
      have n2_ := zh.mk (zm (by (with_reducible repeat (first | refine zc ?_ _ | refine zf ?_ | refine zb ?_ _)); exact BK203.out) hb)
      have n3_ := zh.mk (zdb BK208.out (by intro h_; (with_reducible repeat (first | refine zc ?_ _ | refine zf ?_ | refine zb ?_ _)); exact h_) hb)
      have n4_ := zh.mk (zo (by repeat (first | (with_reducible first | exact HB.out | apply zk | apply zg | apply zj | refine zi ?_ GE202.out | refine zi ?_ GE203.out | refine zi ?_ GE208.out) | exact HB.out)) hb)
      clear HO_50
      clear BK202
      clear BK203
      clear BK208
      clear HB
      have HO_50 := n0_
      have BK202 := n1_
      have BK203 := n2_
      have BK208 := n3_
      have HB := n4_
      clear n0_ n1_ n2_ n3_ n4_
      (try clear hb)
      (try clear hb2)
      (try clear hk)
      (try clear hi)
      refine hK.out _ _ ⟨(za BK208.out 0).trans rfl, HS1_⟩ (fun hHeld => ?_)
      clear hK K
      refine zqa (a' := ?_) ?_ ?_
      rotate_left
      ·show Act.put _ (some 38) _ = _
       simp only [Act.put, List.setIfInBounds_toArray, List.set_cons_zero, List.set_cons_succ, zu, zz]
       rfl
      refine one_ (i := 10) (N := none) #[true, true, true, true, true, true, true, true, true, true, true, false, false] rfl rfl (zgb HT_.out (by kernel_rfl)) (by decide) (fun K hK => ?_)
      have hs34 : w33.cell? ⟨gb203, 0, none⟩ = some (.int .i16 0) := (za BK203.out 0).trans rfl
      have hfs34 := ze BK203.out 0
      have hns34_0 := NB202_203.out
      have hns34_2 := NB208_203.out
      have hms34_0 := NB203_202.out
      have hms34_2 := NB203_208.out
      have hs35 : w33.cell? ⟨gb203, 1, none⟩ = some (.int .i16 0) := (za BK203.out 1).trans rfl
      have hfs35 := ze BK203.out 1
      have hns35_0 := NB202_203.out
      have hns35_2 := NB208_203.out
      have hms35_0 := NB203_202.out
      have hms35_2 := NB203_208.out
      have hs36 : w33.cell? ⟨gb203, 2, none⟩ = some (.int .i16 0) := (za BK203.out 2).trans rfl
      have hfs36 := ze BK203.out 2
      have hns36_0 := NB202_203.out
      have hns36_2 := NB208_203.out
      have hms36_0 := NB203_202.out
      have hms36_2 := NB203_208.out
      have hs37 : w33.cell? ⟨gb203, 3, none⟩ = some (.int .i16 0) := (za BK203.out 3).trans rfl
      have hfs37 := ze BK203.out 3
      have hns37_0 := NB202_203.out
      have hns37_2 := NB208_203.out
      have hms37_0 := NB203_202.out
      have hms37_2 := NB203_208.out
      refine skip_ (w1 := ?_) (by rfl) rfl ?_ ?_
      rotate_left
      ·go_simp
       rfl
      refine hK.out _ _ ⟨((zr (p := ⟨gb203, _, none⟩) NB208_203.out _).trans (((zr (p := ⟨gb203, _, none⟩) NB208_203.out _).trans (((zr (p := ⟨gb203, _, none⟩) NB208_203.out _).trans (((zr (p := ⟨gb203, _, none⟩) NB208_203.out _).trans (hHeld.1)))))))), ((zr (p := ⟨gb203, _, none⟩) (by first | exact Kd.own_blk (Kd.R_ne HO_50.out BK203.out (by decide)) | (rw [zv]; exact Kd.own_blk (Kd.R_ne HO_50.out BK203.out (by decide))) | (show (Addr.add _ _).block ≠ _; rw [zv]; exact Kd.own_blk (Kd.R_ne HO_50.out BK203.out (by decide))) | (dsimp only; exact Kd.own_blk (Kd.R_ne HO_50.out BK203.out (by decide)))) _).trans (((zr (p := ⟨gb203, _, none⟩) (by first | exact Kd.own_blk (Kd.R_ne HO_50.out BK203.out (by decide)) | (rw [zv]; exact Kd.own_blk (Kd.R_ne HO_50.out BK203.out (by decide))) | (show (Addr.add _ _).block ≠ _; rw [zv]; exact Kd.own_blk (Kd.R_ne HO_50.out BK203.out (by decide))) | (dsimp only; exact Kd.own_blk (Kd.R_ne HO_50.out BK203.out (by decide)))) _).trans (((zr (p := ⟨gb203, _, none⟩) (by first | exact Kd.own_blk (Kd.R_ne HO_50.out BK203.out (by decide)) | (rw [zv]; exact Kd.own_blk (Kd.R_ne HO_50.out BK203.out (by decide))) | (show (Addr.add _ _).block ≠ _; rw [zv]; exact Kd.own_blk (Kd.R_ne HO_50.out BK203.out (by decide))) | (dsimp only; exact Kd.own_blk (Kd.R_ne HO_50.out BK203.out (by decide)))) _).trans (((zr (p := ⟨gb203, _, none⟩) (by first | exact Kd.own_blk (Kd.R_ne HO_50.out BK203.out (by decide)) | (rw [zv]; exact Kd.own_blk (Kd.R_ne HO_50.out BK203.out (by decide))) | (show (Addr.add _ _).block ≠ _; rw [zv]; exact Kd.own_blk (Kd.R_ne HO_50.out BK203.out (by decide))) | (dsimp only; exact Kd.own_blk (Kd.R_ne HO_50.out BK203.out (by decide)))) _).trans (hHeld.2))))))))⟩ (fun hHeld => ?_)
      clear hK K
      refine zea (i := 11) (N := some 3) (v := ?_) (a' := ?_) #[true, true, true, true, true, true, true, true, true, true, true, true, false] rfl rfl (zaa HT_.out (by kernel_rfl)) (fun _ _ _ h => h) (Or.inl ⟨by rfl, ?_⟩) ?_ ?_
      rotate_left
      ·intro w'
       go_simp
       with_reducible rfl
      rotate_left
      ·simp only [Act.put, List.setIfInBounds_toArray, List.set_cons_zero, List.set_cons_succ, zu, zz]
       rfl
      refine zea (i := 12) (N := some 4) (v := ?_) (a' := ?_) #[true, true, true, true, true, true, true, true, true, true, true, true, true] rfl rfl (zaa HT_.out (by kernel_rfl)) (fun _ _ _ h => h) (Or.inl ⟨by rfl, ?_⟩) ?_ ?_
      rotate_left
      ·intro w'
       go_simp
       with_reducible rfl
      rotate_left
      ·simp only [Act.put, List.setIfInBounds_toArray, List.set_cons_zero, List.set_cons_succ, zu, zz]
       rfl
      refine zmc (znb HT_.out (by kernel_rfl)) ?_
      try go_wp2
      refine bodyPost_ret (zlc rfl _ _ gb203 27 #[.int .i16 t211, .int .i16 t212, .int .i16 t213, .int .i16 t214] (0, 0) _ rfl (by (with_reducible repeat (first | refine zc ?_ _ | refine zf ?_ | refine zb ?_ _)); refine zw (cs := #[.int .i16 t211, .int .i16 t212, .int .i16 t213, .int .i16 0]) ?_ 3 _ rfl; (with_reducible repeat (first | refine zc ?_ _ | refine zf ?_ | refine zb ?_ _)); refine zw (cs := #[.int .i16 t211, .int .i16 t212, .int .i16 0, .int .i16 0]) ?_ 2 _ rfl; (with_reducible repeat (first | refine zc ?_ _ | refine zf ?_ | refine zb ?_ _)); refine zw (cs := #[.int .i16 t211, .int .i16 0, .int .i16 0, .int .i16 0]) ?_ 1 _ rfl; (with_reducible repeat (first | refine zc ?_ _ | refine zf ?_ | refine zb ?_ _)); refine zw (cs := #[.int .i16 0, .int .i16 0, .int .i16 0, .int .i16 0]) ?_ 0 _ rfl; (with_reducible repeat (first | refine zc ?_ _ | refine zf ?_ | refine zb ?_ _)); exact BK203.out) Try.underlying27 rfl (by kernel_rfl)) rfl ?_
      exact ⟨by first | rfl | (simp [zy, zx] <;> rfl) | (simp [*, zy, zx] <;> rfl), by repeat (first | (with_reducible first | exact HB.out | apply zk | apply zg | apply zj | refine zi ?_ GE202.out | refine zi ?_ GE203.out | refine zi ?_ GE208.out) | exact HB.out)⟩
     rw [if_neg c27] at H
     exact absurd H (by simp)
    rw [if_neg c26] at H
    exact absurd H (by simp)
 replace c3 := Bool.eq_false_iff.mpr c3
 subst c3
 have H1 : (some (0, 0, 0, 0, 0, 1)) = some (r1, r2, r3, r4, r5, r6) := by rw [if_neg (show ¬ (false = true) by decide)] at H; exact H
 clear H
 have H := H1
 clear H1
 simp only [Option.some.injEq, Prod.mk.injEq] at H
 obtain ⟨rfl, rfl, rfl, rfl, rfl, rfl⟩ := H
 go_enter Try.func29, Try.ntmps29
 go_wp2_with (first | ((with_reducible refine zda (N := 1) rfl ?_); refine zca ?hg (N := 1) ?hd (cs := #[.slice A0_0 l0_0.length c0_0, .int .i16 a0_1, .int .i16 a0_2, .int .i16 a0_3, .int .i16 a0_4, .bool a0_5]) (t := 29) ?hr ?_; (case hd => rfl); (case hg => rfl); (case hr => first | (go_simp; done) | (go_simp; rfl)); intro gb202 hg w38 hbox hb; have n0_ := zh.mk (zo (by repeat (first | (with_reducible first | exact HB.out | apply zk | apply zg | apply zj) | exact HB.out)) hb); have n1_ := zh.mk (hbox); have n2_ := zh.mk ((by rw [hg]; exact (zq (by repeat (first | (with_reducible first | exact HB.out | apply zk | apply zg | apply zj) | exact HB.out))) : w.heap.size ≤ gb202)); have n3_ := n2_; clear HB; have HB := n0_; have BK202 := n1_; have GW202 := n2_; have GE202 := n3_; clear n0_ n1_ n2_ n3_; clear hb hbox hg) | ((with_reducible refine zda (N := 2) rfl ?_); refine zca ?hg (N := 2) ?hd (cs := #[.int .i16 0, .int .i16 0, .int .i16 0, .int .i16 0]) (t := 27) ?hr ?_; (case hd => rfl); (case hg => rfl); (case hr => first | (go_simp; done) | (go_simp; rfl)); intro gb203 hg w39 hbox hb; have n0_ := zh.mk (zm (by (with_reducible repeat (first | refine zc ?_ _ | refine zf ?_ | refine zb ?_ _)); exact BK202.out) hb); have n1_ := zh.mk (zo (by repeat (first | (with_reducible first | exact HB.out | apply zk | apply zg | apply zj | refine zi ?_ GE202.out) | exact HB.out)) hb); have n2_ := zh.mk (hbox); have n3_ := zh.mk ((by rw [hg]; exact (zq (by repeat (first | (with_reducible first | exact HB.out | apply zk | apply zg | apply zj | refine zi ?_ GE202.out) | exact HB.out))) : w.heap.size ≤ gb203)); have n4_ := n3_; have n5_ := zh.mk ((by rw [hg]; exact Nat.ne_of_lt (zfa (by (with_reducible repeat (first | refine zc ?_ _ | refine zf ?_ | refine zb ?_ _)); exact BK202.out)) : gb202 ≠ gb203)); have n6_ := zh.mk n5_.out.symm; clear BK202; clear HB; have BK202 := n0_; have HB := n1_; have BK203 := n2_; have GW203 := n3_; have GE203 := n4_; have NB202_203 := n5_; have NB203_202 := n6_; clear n0_ n1_ n2_ n3_ n4_ n5_ n6_; clear hb hbox hg) | ((with_reducible refine zba (f := 57) rfl ?_); refine zja (some 8) rfl rfl Try.func57 (by kernel_rfl) rfl #[.pointer (some ⟨gb202, 0, none⟩)] rfl (by (try simp only [List.map_toArray, List.map_cons, List.map_nil]); first | done | rfl | (simp only [List.length_drop, List.length_take]; rfl)) ?_; (with_reducible refine (spec_l02Ok.calls k gb202 A0_0 c0_0 l0_0 a0_1 a0_2 a0_3 a0_4 a0_5 false _ ?side1 ?side2 ?side3 A2.out).mono ?_); (case side1 => (with_reducible repeat (first | refine zc ?_ _ | refine zf ?_ | refine zb ?_ _)); exact BK202.out); (case side2 => repeat (first | exact (Kd.C_below HR0_0.out HB.out) | (with_reducible refine Kd.C_alloc ?_ _) | (with_reducible refine Kd.C_drewN ?_ _) | (with_reducible refine Kd.C_drew ?_))); (case side3 => exact HC0_0.out); rintro e w40 ⟨rfl, hb⟩; refine ⟨_, rfl, ?_⟩; have n0_ := zh.mk (zm (by (with_reducible repeat (first | refine zc ?_ _ | refine zf ?_ | refine zb ?_ _)); exact BK202.out) hb); have n1_ := zh.mk (zm (by (with_reducible repeat (first | refine zc ?_ _ | refine zf ?_ | refine zb ?_ _)); exact BK203.out) hb); have n2_ := zh.mk (zo (by repeat (first | (with_reducible first | exact HB.out | apply zk | apply zg | apply zj | refine zi ?_ GE202.out | refine zi ?_ GE203.out) | exact HB.out)) hb); clear BK202; clear BK203; clear HB; have BK202 := n0_; have BK203 := n1_; have HB := n2_; clear n0_ n1_ n2_; (try clear hb); (try clear hb2); (try clear hk); (try clear hi); have hnb41 := NB203_202.out; have hnc41 := NB202_203.out; have hcz42_0 : w40.cell? ⟨gb203, 0, none⟩ = some (.int .i16 0) := (za BK203.out 0).trans rfl; have hcz42_1 : w40.cell? ⟨gb203, 1, none⟩ = some (.int .i16 0) := (za BK203.out 1).trans rfl; have hcz42_2 : w40.cell? ⟨gb203, 2, none⟩ = some (.int .i16 0) := (za BK203.out 2).trans rfl; have hcz42_3 : w40.cell? ⟨gb203, 3, none⟩ = some (.int .i16 0) := (za BK203.out 3).trans rfl; have hfz42_0 := ze BK203.out 0; have hfz42_1 := ze BK203.out 1; have hfz42_2 := ze BK203.out 2; have hfz42_3 := ze BK203.out 3))
 refine bodyPost_ret (zlc rfl _ _ gb203 27 #[.int .i16 0, .int .i16 0, .int .i16 0, .int .i16 0] (0, 0) _ rfl (by (with_reducible repeat (first | refine zc ?_ _ | refine zf ?_ | refine zb ?_ _)); refine zw (cs := #[.int .i16 0, .int .i16 0, .int .i16 0, .int .i16 0]) ?_ 3 _ rfl; (with_reducible repeat (first | refine zc ?_ _ | refine zf ?_ | refine zb ?_ _)); refine zw (cs := #[.int .i16 0, .int .i16 0, .int .i16 0, .int .i16 0]) ?_ 2 _ rfl; (with_reducible repeat (first | refine zc ?_ _ | refine zf ?_ | refine zb ?_ _)); refine zw (cs := #[.int .i16 0, .int .i16 0, .int .i16 0, .int .i16 0]) ?_ 1 _ rfl; (with_reducible repeat (first | refine zc ?_ _ | refine zf ?_ | refine zb ?_ _)); refine zw (cs := #[.int .i16 0, .int .i16 0, .int .i16 0, .int .i16 0]) ?_ 0 _ rfl; (with_reducible repeat (first | refine zc ?_ _ | refine zf ?_ | refine zb ?_ _)); exact BK203.out) Try.underlying27 rfl (by kernel_rfl)) rfl ?_
 exact ⟨by first | rfl | (simp [zy, zx] <;> rfl) | (simp [*, zy, zx] <;> rfl), by repeat (first | (with_reducible first | exact HB.out | apply zk | apply zg | apply zj | refine zi ?_ GE202.out | refine zi ?_ GE203.out) | exact HB.out)⟩
end Go.Proofs.Yteciomagemjjaaa.J
