-- Written by wip/tools/myprint.py, a program of this session, by way of the kit's print.
import Derived.Test.YtmfbcklaomigaaaNx0
import Derived.Test.YtmfbcklaomigaaaNx9
import Derived.Test.YtmfbcklaomigaaaNx11
import Derived.Test.YtmfbcklaomigaaaNx12
import Derived.Test.YtmfbcklaomigaaaLPrN
namespace Go.Proofs.Ytmfbcklaomigaaa.N
open Go.RowKit Go.Proofs.YtmfbcklaomigaaaW.PrintWords Go.Proofs.YtmfbcklaomigaaaW.PrintLast Go.Proofs.YtmfbcklaomigaaaW.PrintMore
attribute [local go_sem] zqa zpa zwa zxa zla zka zra zta   -- for this text's walks alone
set_option linter.unusedVariables false
set_option linter.unusedSimpArgs false

/-! ### impl_LeastDistance: function 18 -/
mutual
def impl_LeastDistance.l0 : Nat → List (S38) → Int → List (S38) → Int → Int → Int → Int → List (S43) → Option (Int × Int)
 | 0, _, _, _, _, _, _, _, _ => none
 | k + 1, x4, x5, x15, x16, x17, x273000, x273001, x273002 => if x17 < x16 then (if 0 ≤ x17 then (if x17 < (x15.length : Int) then (if x17 ≤ (x4.length : Int) then ((some (x4.take (x17 : Int).toNat : List (S38))).bind fun y279 => (impl_LeastDistance.l1 k x4 x5 x15 x16 x17 y279 (y279.length : Int) 0 x273000 x273001 x273002 ((zf x15 x17).f0) ((zf x15 x17).f1))) else (none)) else (none)) else (none)) else (some (x5, 0))
def impl_LeastDistance.l1 : Nat → List (S38) → Int → List (S38) → Int → Int → List (S38) → Int → Int → Int → Int → List (S43) → Int → Bool → Option (Int × Int)
 | 0, _, _, _, _, _, _, _, _, _, _, _, _, _ => none
 | k + 1, x4, x5, x15, x16, x17, x24, x25, x26, x273000, x273001, x273002, x279000, x279001 => if x26 < x25 then (if 0 ≤ x26 then (if x26 < (x24.length : Int) then ((impl_Fixed_seen.f k x273000 x273001 x273002 ((zf x24 x26).f0) ((zf x24 x26).f1)).bind fun bt285 => ((impl_Fixed_seen.f k x273000 x273001 x273002 x279000 x279001).bind fun bt289 => ((impl_distance.f k bt285.1 bt285.2.1 bt285.2.2.1 bt285.2.2.2 bt289.1 bt289.2.1 bt289.2.2.1 bt289.2.2.2).bind fun t293 => (impl_LeastDistance.l1 k x4 (mn x5 t293) x15 x16 x17 x24 x25 (wrap64 (x26 + 1)) x273000 x273001 x273002 x279000 x279001)))) else (none)) else (none)) else (impl_LeastDistance.l0 k x4 x5 x15 x16 (wrap64 (x17 + 1)) x273000 x273001 x273002)
end
def impl_LeastDistance.f (k : Nat) (a0_0 : Int) (a0_1 : Int) (l0_2 : List (S43)) : Option (Int × Int) := (impl_ValidFixed.f k a0_0 a0_1 l0_2).bind fun t273 => (if t273 = true then ((impl_Fixed_cases.f k a0_0 a0_1 l0_2).bind fun t274 => (impl_LeastDistance.l0 k t274 4 t274 (t274.length : Int) 0 a0_0 a0_1 l0_2)) else (some (0, 1)))
def impl_LeastDistance.T10 : Bool × List (List Nat × List Nat) := (true, [([], []), ([], []), ([], []), ([1, 2], [1, 2]), ([], []), ([], []), ([4, 5, 3], [4, 5]), ([3, 6, 6], [3, 6]), ([0, 7], [0, 7]), ([8, 7, 0, 1, 2, 3, 4, 5, 6, 7, 8], [0, 8])])
def impl_LeastDistance.B10 : List Nat := [0, 0, 0, 6, 0, 0, 62, 126, 255, 511]
theorem impl_LeastDistance.tab10 : rtab .any (zme Try.f18 10) = impl_LeastDistance.T10 := by kernel_rfl
theorem impl_LeastDistance.bits10 : zpb impl_LeastDistance.T10.2 impl_LeastDistance.B10 = true := by kernel_rfl
set_option maxHeartbeats 8000000 in
set_option maxRecDepth 100000 in
theorem impl_LeastDistance.calls (k : Nat) (a0_0 : Int) (a0_1 : Int) (A0_2 : Option Addr) (c0_2 : Nat) (l0_2 : List (S43)) (r1 : Int) (r2 : Int) (w : World) (hr0_2 : Kd.C k43 w A0_2 l0_2.length l0_2) (hc0_2 : l0_2.length ≤ c0_2) (h : impl_LeastDistance.f k a0_0 a0_1 l0_2 = some (r1, r2)) :
  Calls Try.prog 18 #[.agg #[.int .i8 a0_0, .int .i8 a0_1, .slice A0_2 l0_2.length c0_2]] w fun e w' => e = .returned (.tuple #[.int .i64 r1, .int .i64 r2]) ∧ Below w.heap.size w w' := by
 have hu28 := Try.underlying28
 have hu38 := Try.underlying38
 have HR0_2 := za.mk hr0_2
 have HC0_2 := za.mk hc0_2
 clear hr0_2 hc0_2
 have HB := za.mk (Below.refl w.heap.size w)
 have H : ((impl_ValidFixed.f k a0_0 a0_1 l0_2).bind fun t273 => (if t273 = true then ((impl_Fixed_cases.f k a0_0 a0_1 l0_2).bind fun t274 => (impl_LeastDistance.l0 k t274 4 t274 (t274.length : Int) 0 a0_0 a0_1 l0_2)) else (some (0, 1)))) = some (r1, r2) := h
 clear h
 replace H := Option.bind_eq_some_iff.mp H
 obtain ⟨t273, A20, H⟩ := H
 replace H : (if t273 = true then ((impl_Fixed_cases.f k a0_0 a0_1 l0_2).bind fun t274 => (impl_LeastDistance.l0 k t274 4 t274 (t274.length : Int) 0 a0_0 a0_1 l0_2)) else (some (0, 1))) = some (r1, r2) := H
 have A2 := za.mk A20
 clear A20
 by_cases c3 : t273 = true
 ·subst c3
  have H1 : ((impl_Fixed_cases.f k a0_0 a0_1 l0_2).bind fun t274 => (impl_LeastDistance.l0 k t274 4 t274 (t274.length : Int) 0 a0_0 a0_1 l0_2)) = some (r1, r2) := by rw [if_pos rfl] at H; exact H
  clear H
  have H := H1
  clear H1
  replace H := Option.bind_eq_some_iff.mp H
  obtain ⟨t274, A40, H⟩ := H
  replace H : (impl_LeastDistance.l0 k t274 4 t274 (t274.length : Int) 0 a0_0 a0_1 l0_2) = some (r1, r2) := H
  have A4 := za.mk A40
  clear A40
  have H' := za.mk H
  clear H
  go_enter Try.func18, Try.ntmps18
  go_wp2_with (first | ((with_reducible refine zn (N := 1) rfl ?_); refine bx (N := 1) #[.int .i8 a0_0, .int .i8 a0_1, .slice A0_2 l0_2.length c0_2] 28 rfl ?_; intro gb272 hg w5 hbox hb; have BK272 := za.mk hbox; have GW272 := gB hg; have GE272 := GW272; replace HB := za.mk (ze sB hb); clear hb hbox hg; obtain ⟨hcz6_0, hcz6_1, hcz6_2⟩ := xc3 BK272; obtain ⟨hfz6_0, hfz6_1, hfz6_2⟩ := xf3 BK272) | ((with_reducible refine zo (f := 56) rfl ?_); refine gz (some 11) Try.func56 #[.agg #[.int .i8 a0_0, .int .i8 a0_1, .slice A0_2 l0_2.length c0_2]] rfl rfl ?_; (with_reducible refine (impl_ValidFixed.calls k a0_0 a0_1 _ _ l0_2 true _ ?side1 ?side2 A2.out).mono ?_); (case side1 => exact uC HR0_2 HB); (case side2 => exact HC0_2.out); rintro e w7 ⟨rfl, hb⟩; refine ⟨_, rfl, ?_⟩; replace BK272 := dK BK272 hb; replace HB := za.mk (ze sB hb); try clear hb; obtain ⟨hcz8_0, hcz8_1, hcz8_2⟩ := xc3 BK272; obtain ⟨hfz8_0, hfz8_1, hfz8_2⟩ := xf3 BK272) | ((with_reducible refine zo (f := 61) rfl ?_); refine gz (some 14) Try.func61 #[.agg #[.int .i8 a0_0, .int .i8 a0_1, .slice A0_2 l0_2.length c0_2]] rfl rfl ?_; (with_reducible refine (impl_Fixed_cases.calls k a0_0 a0_1 _ _ l0_2 t274 _ ?side1 ?side2 A4.out).mono ?_); (case side1 => exact uC HR0_2 HB); (case side2 => exact HC0_2.out); rintro e w9 ⟨v275, rfl, ho0, hb⟩; refine ⟨_, rfl, ?_⟩; have HO276 := za.mk (Kd.R_lower ho0 (zv sB)); replace BK272 := dK BK272 hb; replace HB := za.mk (ze sB hb); try clear hb; obtain ⟨Ao10, co10, eo10⟩ := Kd.R_slice HO276.out; subst eo10))
  go_loopg [5, 17] k (fun kq v5 v17 w' => ∃ (x5_1 : Int) (x17_1 : Int), v5 = .int .i64 x5_1 ∧ v17 = .int .i64 x17_1 ∧ za (impl_LeastDistance.l0 kq t274 x5_1 t274 (t274.length : Int) x17_1 a0_0 a0_1 l0_2 = some (r1, r2)) ∧ za (kq ≤ k) ∧ za (Kd.R k38 38 w' w.heap.size (fun _ => True) (.slice Ao10 t274.length co10) t274) ∧ za (Kd.R k38 38 w' w.heap.size (fun _ => True) (.slice Ao10 t274.length co10) t274) ∧ za (w'.heap[gb272]? = some (.cells #[.int .i8 a0_0, .int .i8 a0_1, (.slice A0_2 l0_2.length c0_2)] 28 (0, 0))) ∧ za (Below w.heap.size w w'))
  case atStart => exact ⟨(4), (0), (by first | rfl | (simp; done) | (simp [*]; done)), (by first | rfl | (simp; done) | (simp [*]; done)), H', ⟨Nat.le_refl _⟩, ⟨uR HO276⟩, ⟨uR HO276⟩, ⟨uK BK272⟩, ⟨sB⟩⟩
  case round =>
   clear H'
   try clear c1
   try clear p2
   try clear c3
   try clear c5
   try clear c6
   try clear hcz6_0 hcz6_1 hcz6_2
   try clear hcz8_0 hcz8_1 hcz8_2
   try clear hfz6_0 hfz6_1 hfz6_2
   try clear hfz8_0 hfz8_1 hfz8_2
   obtain ⟨x5_1, x17_1, rfl, rfl, HA, HK1, HO_4, HO_15, BK272, HB⟩ := hrel
   cases gk with
   | zero => exact absurd HA.out (by simp [impl_LeastDistance.l0])
   | succ k1 =>
    have H := HA.out
    clear HA
    simp only [impl_LeastDistance.l0] at H
    by_cases c11 : x17_1 < (t274.length : Int)
    ·rw [if_pos c11] at H
     have c11b0 : decide (x17_1 < (t274.length : Int)) = true := decide_eq_true c11
     clear c11
     by_cases c12 : 0 ≤ x17_1
     ·rw [if_pos c12] at H
      have c12b0 : decide (0 ≤ x17_1) = true := decide_eq_true c12
      clear c12
      by_cases c13 : x17_1 < (t274.length : Int)
      ·rw [if_pos c13] at H
       have c13b0 : decide (x17_1 < (t274.length : Int)) = true := decide_eq_true c13
       clear c13
       have c14b0 := eq_true (of_decide_eq_true (by first | (with_reducible assumption) | assumption) : 0 ≤ x17_1)
       by_cases c15 : x17_1 ≤ (t274.length : Int)
       ·rw [if_pos c15] at H
        have c15b0 := eq_true c15
        have c15b1 : decide (x17_1 ≤ (t274.length : Int)) = true := decide_eq_true c15
        clear c15
        obtain ⟨y279, hy279⟩ : ∃ y_ : List (S38), y_ = (t274.take (x17_1 : Int).toNat) := ⟨_, rfl⟩
        replace H : (impl_LeastDistance.l1 k1 t274 x5_1 t274 (t274.length : Int) x17_1 y279 (y279.length : Int) 0 a0_0 a0_1 l0_2 ((zf t274 x17_1).f0) ((zf t274 x17_1).f1)) = some (r1, r2) := by first | (rw [hy279]; with_reducible exact H) | (have H2_ := (Option.bind_some _ _).symm.trans H; rw [hy279]; with_reducible exact H2_) | (have H2_ := (Option.bind_some _ _).symm.trans H; with_reducible exact H2_) | with_reducible exact H | (rw [hy279]; exact H) | exact H
        have Ny279 := za.mk hy279
        clear hy279
        have H' := za.mk H
        clear H
        have p277 : 0 ≤ (x17_1 : Int) := of_decide_eq_true (by first | (with_reducible assumption) | assumption)
        have q277 : x17_1 < (t274.length : Int) := of_decide_eq_true (by first | (with_reducible assumption) | assumption)
        obtain ⟨ad277, e277, hx277_0, hx277_1⟩ := zsb (Kd.R_reads' HO_15.out).2.2 x17_1 p277 q277
        cases e277
        replace p277 := eq_true p277
        replace q277 := eq_true q277
        go_wp2_with (first | ((with_reducible refine zn (N := 7) rfl ?_); refine bx (N := 7) #[.int .i8 0, .bool false] 38 rfl ?_; intro gb278 hg w16 hbox hb; have BK278 := za.mk hbox; have GW278 := gB hg; have GE278 := GW278; have NB272_278 := nK hg BK272; have NB278_272 := za.mk NB272_278.out.symm; replace HO_4 := za.mk (Kd.R_below (Kd.R_elderB (uR HO_4) gb278 (Nat.le_of_eq hg.symm)) hb); replace HO_15 := za.mk (Kd.R_below (Kd.R_elderB (uR HO_15) gb278 (Nat.le_of_eq hg.symm)) hb); replace BK272 := dK BK272 hb; replace HB := za.mk (ze sB hb); clear hb hbox hg; have hnb17 := NB278_272.out; have hnc17 := NB272_278.out; obtain ⟨hcz18_0, hcz18_1⟩ := xc2 BK278; obtain ⟨hfz18_0, hfz18_1⟩ := xf2 BK278) | ((with_reducible refine zbb (t := 38) (p := 7) rfl ?_); refine zza (t := 38) (p := 7) (v := ?vo_w19) (w1 := ((w16.setCell ⟨gb278, 0, none⟩ (.int .i8 ((zf t274 x17_1).f0))).setCell ⟨gb278, 1, none⟩ (.bool ((zf t274 x17_1).f1)))) ?hg ?ho ?hn ?hr ?_; (case ho => rfl); (case hg => rfl); (case hn => rfl); (case hr => first | (go_simp; done) | (go_simp; rfl)); intro w19 hw; have n0_ : za (Kd.R k38 38 w19 w.heap.size (fun k_ => k_ ≠ gb278) (.slice (some ad277) t274.length co10) t274) := ⟨(by rw [hw]; exact (by (with_reducible repeat (first | apply Kd.R_alloc | apply Kd.R_drewN | apply Kd.R_drew)); exact Kd.R_mono (Kd.R_far (p := ⟨gb278, 1, none⟩) (Kd.R_far (p := ⟨gb278, 0, none⟩) (Kd.R_mono HO_4.out (fun k_ hk => (⟨hk, hk.2⟩ : _ ∧ k_ ≠ gb278))) (fun _ hk => hk.2) (.int .i8 ((zf t274 x17_1).f0))) (fun _ hk => hk.2) (.bool ((zf t274 x17_1).f1))) (fun _ hk => hk.1.2)))⟩; have n1_ : za (Kd.R k38 38 w19 w.heap.size (fun k_ => k_ ≠ gb278) (.slice (some ad277) t274.length co10) t274) := ⟨(by rw [hw]; exact (by (with_reducible repeat (first | apply Kd.R_alloc | apply Kd.R_drewN | apply Kd.R_drew)); exact Kd.R_mono (Kd.R_far (p := ⟨gb278, 1, none⟩) (Kd.R_far (p := ⟨gb278, 0, none⟩) (Kd.R_mono HO_15.out (fun k_ hk => (⟨hk, hk.2⟩ : _ ∧ k_ ≠ gb278))) (fun _ hk => hk.2) (.int .i8 ((zf t274 x17_1).f0))) (fun _ hk => hk.2) (.bool ((zf t274 x17_1).f1))) (fun _ hk => hk.1.2)))⟩; have n2_ : za (w19.heap[gb272]? = some (.cells #[.int .i8 a0_0, .int .i8 a0_1, .slice A0_2 l0_2.length c0_2] 28 (0, 0))) := ⟨(by rw [hw]; exact (by (with_reducible repeat (first | refine zc ?_ _ | refine zd ?_ | refine zb ?_ _)); refine zm ?_ NB272_278.out _; (with_reducible repeat (first | refine zc ?_ _ | refine zd ?_ | refine zb ?_ _)); refine zm ?_ NB272_278.out _; (with_reducible repeat (first | refine zc ?_ _ | refine zd ?_ | refine zb ?_ _)); exact BK272.out))⟩; have n3_ : za (w19.heap[gb278]? = some (.cells #[.int .i8 ((zf t274 x17_1).f0), .bool ((zf t274 x17_1).f1)] 38 (0, 0))) := ⟨(by rw [hw]; exact (by (with_reducible repeat (first | refine zc ?_ _ | refine zd ?_ | refine zb ?_ _)); refine zl (cs := #[.int .i8 ((zf t274 x17_1).f0), .bool false]) ?_ 1 _ rfl; (with_reducible repeat (first | refine zc ?_ _ | refine zd ?_ | refine zb ?_ _)); refine zl (cs := #[.int .i8 0, .bool false]) ?_ 0 _ rfl; (with_reducible repeat (first | refine zc ?_ _ | refine zd ?_ | refine zb ?_ _)); exact BK278.out))⟩; have n4_ : za (Below w.heap.size w w19) := ⟨(by rw [hw]; exact sB)⟩; clear hw; clear HO_4; clear HO_15; clear BK272; clear BK278; clear HB; have HO_4 := n0_; have HO_15 := n1_; have BK272 := n2_; have BK278 := n3_; have HB := n4_; clear n0_ n1_ n2_ n3_ n4_; have q20 : (x17_1 : Int) ≤ ((t274.length : Int) : Int) := of_decide_eq_true (by first | (with_reducible assumption) | assumption); obtain ⟨i020, hi020, _, hsz20, _⟩ := info_parts zyb; have hroom20 : t274.length ≤ co10 := (Kd.R_reads' HO_4.out).2.1; have hC20 : Kd.C k38 _ (some ad277) t274.length t274 := (Kd.R_reads' HO_4.out).2.2; have hcut20 := cut_to (P := Try.prog) 55 38 .i64 Try.underlying55 hi020 (some ad277) t274.length co10 x17_1 (of_decide_eq_true (by first | (with_reducible assumption) | assumption)) q20 hroom20; have hr20 := Kd.C_take (m := (x17_1 : Int).toNat) hC20 (by omega); have hy20 : y279.length = (x17_1 : Int).toNat := (by rw [Ny279.out, List.length_take]; omega); rw [← Ny279.out] at hr20; rw [← hy20] at hcut20; have HR282 := za.mk hr20; have HC282 := za.mk (show y279.length ≤ co10 from by omega); clear hr20 hC20 hroom20 hi020 hsz20; have KY20 := za.mk hy20; clear hy20; have KL20 := za.mk (show (x17_1 : Int).toNat ≤ t274.length from by omega); replace q20 := eq_true q20))
        go_loopg [5, 26] k1 (fun kq v5 v26 w' => ∃ (x5_2 : Int) (x26_2 : Int), v5 = .int .i64 x5_2 ∧ v26 = .int .i64 x26_2 ∧ za (impl_LeastDistance.l1 kq t274 x5_2 t274 (t274.length : Int) x17_1 y279 (y279.length : Int) x26_2 a0_0 a0_1 l0_2 ((zf t274 x17_1).f0) ((zf t274 x17_1).f1) = some (r1, r2)) ∧ za (kq ≤ k1) ∧ za (Kd.R k38 38 w' w.heap.size (fun k_ => k_ ≠ gb278) (.slice (some ad277) t274.length co10) t274) ∧ za (Kd.R k38 38 w' w.heap.size (fun k_ => k_ ≠ gb278) (.slice (some ad277) t274.length co10) t274) ∧ za (w'.heap[gb272]? = some (.cells #[.int .i8 a0_0, .int .i8 a0_1, (.slice A0_2 l0_2.length c0_2)] 28 (0, 0))) ∧ za (w'.heap[gb278]? = some (.cells #[.int .i8 ((zf t274 x17_1).f0), .bool ((zf t274 x17_1).f1)] 38 (0, 0))) ∧ za (Below w.heap.size w w'))
        case atStart => exact ⟨(x5_1), (0), (by first | rfl | (simp; done) | (simp [*]; done)), (by first | rfl | (simp; done) | (simp [*]; done)), H', ⟨Nat.le_refl _⟩, ⟨uR HO_4⟩, ⟨uR HO_15⟩, ⟨uK BK272⟩, ⟨uK BK278⟩, ⟨sB⟩⟩
        case round =>
         clear H'
         try clear c1
         try clear p2
         try clear q2
         try clear hx2
         try clear c3
         try clear c5
         try clear c6
         try clear c11
         try clear c11b0
         try clear c12
         try clear c12b0
         try clear c13
         try clear c13b0
         try clear c14
         try clear c14b0
         try clear c15
         try clear c15b0
         try clear c15b1
         try clear c17
         try clear c18
         try clear q20
         try clear hcz18_0 hcz18_1
         try clear hcz6_0 hcz6_1 hcz6_2
         try clear hcz8_0 hcz8_1 hcz8_2
         try clear hfz18_0 hfz18_1
         try clear hfz6_0 hfz6_1 hfz6_2
         try clear hfz8_0 hfz8_1 hfz8_2
         try clear hx277_0
         try clear hx277_1
         try clear p2
         try clear p277
         try clear q20
         try clear q277
         obtain ⟨x5_2, x26_2, rfl, rfl, HA, HK2, HO_4, HO_15, BK272, BK278, HB⟩ := hrel
         cases gk with
         | zero => exact absurd HA.out (by simp [impl_LeastDistance.l1])
         | succ k2 =>
          have H := HA.out
          clear HA
          simp only [impl_LeastDistance.l1] at H
          by_cases c21 : x26_2 < (y279.length : Int)
          ·rw [if_pos c21] at H
           have c21b0 : decide (x26_2 < (y279.length : Int)) = true := decide_eq_true c21
           clear c21
           by_cases c22 : 0 ≤ x26_2
           ·rw [if_pos c22] at H
            have c22b0 : decide (0 ≤ x26_2) = true := decide_eq_true c22
            clear c22
            by_cases c23 : x26_2 < (y279.length : Int)
            ·rw [if_pos c23] at H
             have c23b0 : decide (x26_2 < (y279.length : Int)) = true := decide_eq_true c23
             clear c23
             replace H := Option.bind_eq_some_iff.mp H
             obtain ⟨⟨t285, t286, t287, t288⟩, A240, H⟩ := H
             replace H : ((impl_Fixed_seen.f k2 a0_0 a0_1 l0_2 ((zf t274 x17_1).f0) ((zf t274 x17_1).f1)).bind fun bt289 => ((impl_distance.f k2 t285 t286 t287 t288 bt289.1 bt289.2.1 bt289.2.2.1 bt289.2.2.2).bind fun t293 => (impl_LeastDistance.l1 k2 t274 (mn x5_2 t293) t274 (t274.length : Int) x17_1 y279 (y279.length : Int) (wrap64 (x26_2 + 1)) a0_0 a0_1 l0_2 ((zf t274 x17_1).f0) ((zf t274 x17_1).f1)))) = some (r1, r2) := H
             have A24 := za.mk A240
             clear A240
             replace H := Option.bind_eq_some_iff.mp H
             obtain ⟨⟨t289, t290, t291, t292⟩, A250, H⟩ := H
             replace H : ((impl_distance.f k2 t285 t286 t287 t288 t289 t290 t291 t292).bind fun t293 => (impl_LeastDistance.l1 k2 t274 (mn x5_2 t293) t274 (t274.length : Int) x17_1 y279 (y279.length : Int) (wrap64 (x26_2 + 1)) a0_0 a0_1 l0_2 ((zf t274 x17_1).f0) ((zf t274 x17_1).f1))) = some (r1, r2) := H
             have A25 := za.mk A250
             clear A250
             replace H := Option.bind_eq_some_iff.mp H
             obtain ⟨t293, A260, H⟩ := H
             replace H : (impl_LeastDistance.l1 k2 t274 (mn x5_2 t293) t274 (t274.length : Int) x17_1 y279 (y279.length : Int) (wrap64 (x26_2 + 1)) a0_0 a0_1 l0_2 ((zf t274 x17_1).f0) ((zf t274 x17_1).f1)) = some (r1, r2) := H
             have A26 := za.mk A260
             clear A260
             obtain ⟨ji27, hji27⟩ : ∃ j_ : Int, (mn x5_2 t293) = j_ := ⟨_, rfl⟩
             replace H : (impl_LeastDistance.l1 k2 t274 ji27 t274 (t274.length : Int) x17_1 y279 (y279.length : Int) (wrap64 (x26_2 + 1)) a0_0 a0_1 l0_2 ((zf t274 x17_1).f0) ((zf t274 x17_1).f1)) = some (r1, r2) := by first | (rw [hji27] at H; exact H) | (simp only [hji27] at H ⊢; exact H)
             (try rw [hji27] at A24)
             (try rw [hji27] at A25)
             (try rw [hji27] at A26)
             have hji27_ : (if t293 < x5_2 then t293 else x5_2) = ji27 := hji27
             have H' := za.mk H
             clear H
             have p283 : 0 ≤ (x26_2 : Int) := of_decide_eq_true (by first | (with_reducible assumption) | assumption)
             have q283 : x26_2 < (y279.length : Int) := of_decide_eq_true (by first | (with_reducible assumption) | assumption)
             obtain ⟨ad283, e283, hx283_0, hx283_1⟩ := zsb (show Kd.C k38 wr (some ad277) y279.length y279 from by rw [Ny279.out]; exact Kd.C_take (Kd.R_reads' HO_4.out).2.2 KL20.out) x26_2 p283 q283
             obtain rfl : ad277 = ad283 := (by injection e283)
             replace p283 := eq_true p283
             replace q283 := eq_true q283
             try go_wp2_with (first | ((with_reducible refine zn (N := 9) rfl ?_); refine bx (N := 9) #[.int .i8 0, .bool false] 38 rfl ?_; intro gb284 hg w28 hbox hb; have BK284 := za.mk hbox; have GW284 := gB hg; have GE284 := GW284; have NB272_284 := nK hg BK272; have NB284_272 := za.mk NB272_284.out.symm; have NB278_284 := nK hg BK278; have NB284_278 := za.mk NB278_284.out.symm; replace HO_4 := za.mk (Kd.R_below (Kd.R_elderB (uR HO_4) gb284 (Nat.le_of_eq hg.symm)) hb); replace HO_15 := za.mk (Kd.R_below (Kd.R_elderB (uR HO_15) gb284 (Nat.le_of_eq hg.symm)) hb); replace BK272 := dK BK272 hb; replace BK278 := dK BK278 hb; replace HB := za.mk (ze sB hb); clear hb hbox hg; have hnb29 := NB284_272.out; have hnc29 := NB272_284.out; have hnb30 := NB284_278.out; have hnc30 := NB278_284.out; obtain ⟨hcz31_0, hcz31_1⟩ := xc2 BK284; obtain ⟨hfz31_0, hfz31_1⟩ := xf2 BK284))
             have n0_ : za (Kd.R k38 38 ((w28.setCell ⟨gb284, 0, none⟩ (.int .i8 ((zf y279 x26_2).f0))).setCell ⟨gb284, 1, none⟩ (.bool ((zf y279 x26_2).f1))) w.heap.size (fun k_ => k_ ≠ gb278 ∧ k_ ≠ gb284) (.slice (some ad277) t274.length co10) t274) := ⟨by (with_reducible repeat (first | apply Kd.R_alloc | apply Kd.R_drewN | apply Kd.R_drew)); exact Kd.R_mono (Kd.R_far (p := ⟨gb284, 1, none⟩) (Kd.R_far (p := ⟨gb284, 0, none⟩) (Kd.R_mono HO_4.out (fun k_ hk => (⟨hk, hk.2⟩ : _ ∧ k_ ≠ gb284))) (fun _ hk => hk.2) (.int .i8 ((zf y279 x26_2).f0))) (fun _ hk => hk.2) (.bool ((zf y279 x26_2).f1))) (fun _ hk => ⟨hk.1.1, hk.1.2⟩)⟩
             have n1_ : za (Kd.R k38 38 ((w28.setCell ⟨gb284, 0, none⟩ (.int .i8 ((zf y279 x26_2).f0))).setCell ⟨gb284, 1, none⟩ (.bool ((zf y279 x26_2).f1))) w.heap.size (fun k_ => k_ ≠ gb278 ∧ k_ ≠ gb284) (.slice (some ad277) t274.length co10) t274) := ⟨by (with_reducible repeat (first | apply Kd.R_alloc | apply Kd.R_drewN | apply Kd.R_drew)); exact Kd.R_mono (Kd.R_far (p := ⟨gb284, 1, none⟩) (Kd.R_far (p := ⟨gb284, 0, none⟩) (Kd.R_mono HO_15.out (fun k_ hk => (⟨hk, hk.2⟩ : _ ∧ k_ ≠ gb284))) (fun _ hk => hk.2) (.int .i8 ((zf y279 x26_2).f0))) (fun _ hk => hk.2) (.bool ((zf y279 x26_2).f1))) (fun _ hk => ⟨hk.1.1, hk.1.2⟩)⟩
             have n2_ : za (((w28.setCell ⟨gb284, 0, none⟩ (.int .i8 ((zf y279 x26_2).f0))).setCell ⟨gb284, 1, none⟩ (.bool ((zf y279 x26_2).f1))).heap[gb272]? = some (.cells #[.int .i8 a0_0, .int .i8 a0_1, .slice A0_2 l0_2.length c0_2] 28 (0, 0))) := ⟨by (with_reducible repeat (first | refine zc ?_ _ | refine zd ?_ | refine zb ?_ _)); refine zm ?_ NB272_284.out _; (with_reducible repeat (first | refine zc ?_ _ | refine zd ?_ | refine zb ?_ _)); refine zm ?_ NB272_284.out _; (with_reducible repeat (first | refine zc ?_ _ | refine zd ?_ | refine zb ?_ _)); exact BK272.out⟩
             have n3_ : za (((w28.setCell ⟨gb284, 0, none⟩ (.int .i8 ((zf y279 x26_2).f0))).setCell ⟨gb284, 1, none⟩ (.bool ((zf y279 x26_2).f1))).heap[gb278]? = some (.cells #[.int .i8 ((zf t274 x17_1).f0), .bool ((zf t274 x17_1).f1)] 38 (0, 0))) := ⟨by (with_reducible repeat (first | refine zc ?_ _ | refine zd ?_ | refine zb ?_ _)); refine zm ?_ NB278_284.out _; (with_reducible repeat (first | refine zc ?_ _ | refine zd ?_ | refine zb ?_ _)); refine zm ?_ NB278_284.out _; (with_reducible repeat (first | refine zc ?_ _ | refine zd ?_ | refine zb ?_ _)); exact BK278.out⟩
             have n4_ : za (((w28.setCell ⟨gb284, 0, none⟩ (.int .i8 ((zf y279 x26_2).f0))).setCell ⟨gb284, 1, none⟩ (.bool ((zf y279 x26_2).f1))).heap[gb284]? = some (.cells #[.int .i8 ((zf y279 x26_2).f0), .bool ((zf y279 x26_2).f1)] 38 (0, 0))) := ⟨by (with_reducible repeat (first | refine zc ?_ _ | refine zd ?_ | refine zb ?_ _)); refine zl (cs := #[.int .i8 ((zf y279 x26_2).f0), .bool false]) ?_ 1 _ rfl; (with_reducible repeat (first | refine zc ?_ _ | refine zd ?_ | refine zb ?_ _)); refine zl (cs := #[.int .i8 0, .bool false]) ?_ 0 _ rfl; (with_reducible repeat (first | refine zc ?_ _ | refine zd ?_ | refine zb ?_ _)); exact BK284.out⟩
             have n5_ : za (Below w.heap.size w ((w28.setCell ⟨gb284, 0, none⟩ (.int .i8 ((zf y279 x26_2).f0))).setCell ⟨gb284, 1, none⟩ (.bool ((zf y279 x26_2).f1)))) := ⟨sB⟩
             (try clear HO_4)
             (try clear HO_15)
             (try clear BK272)
             (try clear BK278)
             (try clear BK284)
             (try clear HB)
             generalize ((w28.setCell ⟨gb284, 0, none⟩ (.int .i8 ((zf y279 x26_2).f0))).setCell ⟨gb284, 1, none⟩ (.bool ((zf y279 x26_2).f1))) = w32 at n0_ n1_ n2_ n3_ n4_ n5_ ⊢
             have HO_4 := n0_
             have HO_15 := n1_
             have BK272 := n2_
             have BK278 := n3_
             have BK284 := n4_
             have HB := n5_
             clear n0_ n1_ n2_ n3_ n4_ n5_
             have n0_ := za.mk (Kd.R_drew HO_4.out)
             have n1_ := za.mk (Kd.R_drew HO_15.out)
             have n2_ := za.mk (zd BK272.out)
             have n3_ := za.mk (zd BK278.out)
             have n4_ := za.mk (zd BK284.out)
             have n5_ := za.mk (zt HB.out)
             clear HO_4
             clear HO_15
             clear BK272
             clear BK278
             clear BK284
             clear HB
             have HO_4 := n0_
             have HO_15 := n1_
             have BK272 := n2_
             have BK278 := n3_
             have BK284 := n4_
             have HB := n5_
             clear n0_ n1_ n2_ n3_ n4_ n5_
             refine zbc (n := 10) (S := fun w' => w'.cell? ⟨gb272, 0, none⟩ = some (.int .i8 a0_0) ∧ w'.cell? ⟨gb272, 1, none⟩ = some (.int .i8 a0_1) ∧ w'.cell? ⟨gb272, 2, none⟩ = some (.slice A0_2 l0_2.length c0_2) ∧ w'.cell? ⟨gb284, 0, none⟩ = some (.int .i8 ((zf y279 x26_2).f0)) ∧ w'.cell? ⟨gb284, 1, none⟩ = some (.bool ((zf y279 x26_2).f1)) ∧ w'.cell? ⟨gb278, 0, none⟩ = some (.int .i8 ((zf t274 x17_1).f0)) ∧ w'.cell? ⟨gb278, 1, none⟩ = some (.bool ((zf t274 x17_1).f1))) (ds := []) #[false, false, false, false, false, false, false, false, false, false] (by kernel_rfl) rfl rfl ⟨(zh BK272.out 0).trans rfl, (zh BK272.out 1).trans rfl, (zh BK272.out 2).trans rfl, (zh BK284.out 0).trans rfl, (zh BK284.out 1).trans rfl, (zh BK278.out 0).trans rfl, (zh BK278.out 1).trans rfl⟩ (fun hHeld => ?_); refine zib impl_LeastDistance.tab10 impl_LeastDistance.bits10 (fun HT_ HW_ => ?_)
             generalize w32.drew = w33 at HO_4 HO_15 BK272 BK278 BK284 HB hHeld ⊢
             refine zva (i := 0) (N := some 30) (v := ?_) (a' := ?_) #[true, false, false, false, false, false, false, false, false, false] rfl rfl (zia HT_.out (by kernel_rfl)) (fun _ _ _ h => h) (Or.inl ⟨by rfl, ?_⟩) ?_ ?_
             rotate_left
             ·intro w'
              go_simp
              with_reducible rfl
             rotate_left
             ·simp only [Act.put, List.setIfInBounds_toArray, List.set_cons_zero, List.set_cons_succ, zda, zfa]
              rfl
             refine take_ (i := 1) (N := some 31) (v := ?_) (a' := ?_) #[true, true, false, false, false, false, false, false, false, false] rfl rfl (zsa HT_.out HW_.out (by kernel_rfl)) (fun _ _ _ h => h) (Or.inl ⟨by rfl, ?_⟩) hHeld ?_ ?_
             rotate_left
             ·rintro w' ⟨s0, s1, s2, s3, s4, s5, s6⟩
              go_simp
              with_reducible rfl
             rotate_left
             ·simp only [Act.put, List.setIfInBounds_toArray, List.set_cons_zero, List.set_cons_succ, zda, zfa]
              rfl
             refine take_ (i := 2) (N := some 32) (v := ?_) (a' := ?_) #[true, true, true, false, false, false, false, false, false, false] rfl rfl (zsa HT_.out HW_.out (by kernel_rfl)) (fun _ _ _ h => h) (Or.inl ⟨by rfl, ?_⟩) hHeld ?_ ?_
             rotate_left
             ·rintro w' ⟨s0, s1, s2, s3, s4, s5, s6⟩
              go_simp
              with_reducible rfl
             rotate_left
             ·simp only [Act.put, List.setIfInBounds_toArray, List.set_cons_zero, List.set_cons_succ, zda, zfa]
              rfl
             refine take_ (i := 4) (N := some 34) (v := ?_) (a' := ?_) #[true, true, true, false, true, false, false, false, false, false] rfl rfl (zsa HT_.out HW_.out (by kernel_rfl)) (fun _ _ _ h => h) (Or.inl ⟨by rfl, ?_⟩) hHeld ?_ ?_
             rotate_left
             ·rintro w' ⟨s0, s1, s2, s3, s4, s5, s6⟩
              go_simp
              with_reducible rfl
             rotate_left
             ·simp only [Act.put, List.setIfInBounds_toArray, List.set_cons_zero, List.set_cons_succ, zda, zfa]
              rfl
             refine take_ (i := 5) (N := some 35) (v := ?_) (a' := ?_) #[true, true, true, false, true, true, false, false, false, false] rfl rfl (zsa HT_.out HW_.out (by kernel_rfl)) (fun _ _ _ h => h) (Or.inl ⟨by rfl, ?_⟩) hHeld ?_ ?_
             rotate_left
             ·rintro w' ⟨s0, s1, s2, s3, s4, s5, s6⟩
              go_simp
              with_reducible rfl
             rotate_left
             ·simp only [Act.put, List.setIfInBounds_toArray, List.set_cons_zero, List.set_cons_succ, zda, zfa]
              rfl
             refine one_ (i := 3) (N := some 33) #[true, true, true, true, true, true, false, false, false, false] rfl rfl (zgb HT_.out (by kernel_rfl)) (by decide) (fun K hK => ?_)
             refine zxb Try.func62 (by kernel_rfl) rfl #[.agg #[.int .i8 a0_0, .int .i8 a0_1, .slice A0_2 l0_2.length c0_2], .agg #[.int .i8 ((zf y279 x26_2).f0), .bool ((zf y279 x26_2).f1)]] (by rfl) rfl rfl (by (try simp only [List.map_toArray, List.map_cons, List.map_nil]); first | done | rfl | (simp only [List.length_drop, List.length_take]; rfl)) ?_
             with_reducible refine (impl_Fixed_seen.calls k2 a0_0 a0_1 _ _ l0_2 ((zf y279 x26_2).f0) ((zf y279 x26_2).f1) t285 t286 t287 t288 _ ?side1 ?side2 A24.out).mono ?_
             (case side1 => exact uC HR0_2 HB)
             (case side2 => exact HC0_2.out)
             rintro e w34 ⟨rfl, hb⟩
             refine ⟨_, rfl, ?_⟩
             have n0_ := dR HO_4 hb
             have n1_ := dR HO_15 hb
             have n2_ := dK BK272 hb
             have n3_ := dK BK278 hb
             have n4_ := dK BK284 hb
             have n5_ := za.mk (ze sB hb)
             clear HO_4
             clear HO_15
             clear BK272
             clear BK278
             clear BK284
             clear HB
             have HO_4 := n0_
             have HO_15 := n1_
             have BK272 := n2_
             have BK278 := n3_
             have BK284 := n4_
             have HB := n5_
             clear n0_ n1_ n2_ n3_ n4_ n5_
             (try clear hb)
             (try clear hb2)
             (try clear hk)
             (try clear hi)
             refine hK.out _ _ ⟨(zh BK272.out 0).trans rfl, (zh BK272.out 1).trans rfl, (zh BK272.out 2).trans rfl, (zh BK284.out 0).trans rfl, (zh BK284.out 1).trans rfl, (zh BK278.out 0).trans rfl, (zh BK278.out 1).trans rfl⟩ (fun hHeld => ?_)
             clear hK K
             refine zub (a' := ?_) ?_ ?_
             rotate_left
             ·show Act.put _ (some 33) _ = _
              simp only [Act.put, List.setIfInBounds_toArray, List.set_cons_zero, List.set_cons_succ, zda, zfa]
              rfl
             refine one_ (i := 6) (N := some 36) #[true, true, true, true, true, true, true, false, false, false] rfl rfl (zgb HT_.out (by kernel_rfl)) (by decide) (fun K hK => ?_)
             refine zxb Try.func62 (by kernel_rfl) rfl #[.agg #[.int .i8 a0_0, .int .i8 a0_1, .slice A0_2 l0_2.length c0_2], .agg #[.int .i8 ((zf t274 x17_1).f0), .bool ((zf t274 x17_1).f1)]] (by rfl) rfl rfl (by (try simp only [List.map_toArray, List.map_cons, List.map_nil]); first | done | rfl | (simp only [List.length_drop, List.length_take]; rfl)) ?_
             with_reducible refine (impl_Fixed_seen.calls k2 a0_0 a0_1 _ _ l0_2 ((zf t274 x17_1).f0) ((zf t274 x17_1).f1) t289 t290 t291 t292 _ ?side1 ?side2 A25.out).mono ?_
             (case side1 => exact uC HR0_2 HB)
             (case side2 => exact HC0_2.out)
             rintro e w35 ⟨rfl, hb⟩
             refine ⟨_, rfl, ?_⟩
             have n0_ := dR HO_4 hb
             have n1_ := dR HO_15 hb
             have n2_ := dK BK272 hb
             have n3_ := dK BK278 hb
             have n4_ := dK BK284 hb
             have n5_ := za.mk (ze sB hb)
             clear HO_4
             clear HO_15
             clear BK272
             clear BK278
             clear BK284
             clear HB
             have HO_4 := n0_
             have HO_15 := n1_
             have BK272 := n2_
             have BK278 := n3_
             have BK284 := n4_
             have HB := n5_
             clear n0_ n1_ n2_ n3_ n4_ n5_
             (try clear hb)
             (try clear hb2)
             (try clear hk)
             (try clear hi)
             refine hK.out _ _ ⟨(zh BK272.out 0).trans rfl, (zh BK272.out 1).trans rfl, (zh BK272.out 2).trans rfl, (zh BK284.out 0).trans rfl, (zh BK284.out 1).trans rfl, (zh BK278.out 0).trans rfl, (zh BK278.out 1).trans rfl⟩ (fun hHeld => ?_)
             clear hK K
             refine zub (a' := ?_) ?_ ?_
             rotate_left
             ·show Act.put _ (some 36) _ = _
              simp only [Act.put, List.setIfInBounds_toArray, List.set_cons_zero, List.set_cons_succ, zda, zfa]
              rfl
             refine one_ (i := 7) (N := some 37) #[true, true, true, true, true, true, true, true, false, false] rfl rfl (zgb HT_.out (by kernel_rfl)) (by decide) (fun K hK => ?_)
             refine zxb Try.func63 (by kernel_rfl) rfl #[.agg #[.int .i8 t285, .int .i8 t286, .int .i8 t287, .int .i8 t288], .agg #[.int .i8 t289, .int .i8 t290, .int .i8 t291, .int .i8 t292]] (by rfl) rfl rfl (by (try simp only [List.map_toArray, List.map_cons, List.map_nil]); first | done | rfl | (simp only [List.length_drop, List.length_take]; rfl)) ?_
             with_reducible refine (impl_distance.calls k2 t285 t286 t287 t288 t289 t290 t291 t292 t293 _ A26.out).mono ?_
             rintro e w36 ⟨rfl, hb⟩
             refine ⟨_, rfl, ?_⟩
             have n0_ := dR HO_4 hb
             have n1_ := dR HO_15 hb
             have n2_ := dK BK272 hb
             have n3_ := dK BK278 hb
             have n4_ := dK BK284 hb
             have n5_ := za.mk (ze sB hb)
             clear HO_4
             clear HO_15
             clear BK272
             clear BK278
             clear BK284
             clear HB
             have HO_4 := n0_
             have HO_15 := n1_
             have BK272 := n2_
             have BK278 := n3_
             have BK284 := n4_
             have HB := n5_
             clear n0_ n1_ n2_ n3_ n4_ n5_
             (try clear hb)
             (try clear hb2)
             (try clear hk)
             (try clear hi)
             refine hK.out _ _ ⟨(zh BK272.out 0).trans rfl, (zh BK272.out 1).trans rfl, (zh BK272.out 2).trans rfl, (zh BK284.out 0).trans rfl, (zh BK284.out 1).trans rfl, (zh BK278.out 0).trans rfl, (zh BK278.out 1).trans rfl⟩ (fun hHeld => ?_)
             clear hK K
             refine zub (a' := ?_) ?_ ?_
             rotate_left
             ·show Act.put _ (some 37) _ = _
              simp only [Act.put, List.setIfInBounds_toArray, List.set_cons_zero, List.set_cons_succ, zda, zfa]
              rfl
             refine zva (i := 8) (N := some 38) (v := ?_) (a' := ?_) #[true, true, true, true, true, true, true, true, true, false] rfl rfl (zia HT_.out (by kernel_rfl)) (fun _ _ _ h => h) (Or.inl ⟨by rfl, ?_⟩) ?_ ?_
             rotate_left
             ·intro w'
              go_simp
              with_reducible rfl
             rotate_left
             ·simp only [Act.put, List.setIfInBounds_toArray, List.set_cons_zero, List.set_cons_succ, zda, zfa]
              rfl
             refine zva (i := 9) (N := some 5) (v := ?_) (a' := ?_) #[true, true, true, true, true, true, true, true, true, true] rfl rfl (zia HT_.out (by kernel_rfl)) (fun _ _ _ h => h) (Or.inl ⟨by rfl, ?_⟩) ?_ ?_
             rotate_left
             ·intro w'
              go_simp
              with_reducible rfl
             rotate_left
             ·simp only [Act.put, List.setIfInBounds_toArray, List.set_cons_zero, List.set_cons_succ, zda, zfa]
              rfl
             refine zjd (ztb HT_.out (by kernel_rfl)) ?_
             try go_wp2
             go_roundg k2
             case measure => have := HK1.out; have := HK2.out; omega
             case rel => exact ⟨(ji27), (wrap64 (x26_2 + 1)), (by first | rfl | (simp; done) | (simp only [← hji27] <;> (first | rfl | simp)) | (simp [*]; done)), (by first | rfl | (simp; done) | (simp [*]; done)), H', ⟨by have := HK1.out; have := HK2.out; omega⟩, ⟨uR' (Kd.R_mono HO_4.out (fun _ hk => hk.1))⟩, ⟨uR' (Kd.R_mono HO_15.out (fun _ hk => hk.1))⟩, ⟨uK BK272⟩, ⟨uK BK278⟩, ⟨sB⟩⟩
            rw [if_neg c23] at H
            exact absurd H (by simp)
           rw [if_neg c22] at H
           exact absurd H (by simp)
          rw [if_neg c21] at H
          have c21b0 : decide (x26_2 < (y279.length : Int)) = false := decide_eq_false c21
          clear c21
          have H' := za.mk H
          clear H
          go_wp2
          go_roundg k2
          case measure => have := HK1.out; have := HK2.out; omega
          case rel => exact ⟨(x5_2), (wrap64 (x17_1 + 1)), (by first | rfl | (simp; done) | (simp [*]; done)), (by first | rfl | (simp; done) | (simp [*]; done)), H', ⟨by have := HK1.out; have := HK2.out; omega⟩, ⟨uR' (Kd.R_mono HO_4.out (fun _ hk => trivial))⟩, ⟨uR' (Kd.R_mono HO_15.out (fun _ hk => trivial))⟩, ⟨uK BK272⟩, ⟨sB⟩⟩
       rw [if_neg c15] at H
       exact absurd H (by simp)
      rw [if_neg c13] at H
      exact absurd H (by simp)
     rw [if_neg c12] at H
     exact absurd H (by simp)
    rw [if_neg c11] at H
    have c11b0 : decide (x17_1 < (t274.length : Int)) = false := decide_eq_false c11
    clear c11
    simp only [Option.some.injEq, Prod.mk.injEq] at H
    obtain ⟨rfl, rfl⟩ := H
    go_wp2
    go_ret2
    exact ⟨by first | rfl | (simp [zk, zj] <;> rfl) | (simp [*, zk, zj] <;> rfl), sB⟩
 replace c3 := Bool.eq_false_iff.mpr c3
 subst c3
 have H1 : (some (0, 1)) = some (r1, r2) := by rw [if_neg (show ¬ (false = true) by decide)] at H; exact H
 clear H
 have H := H1
 clear H1
 simp only [Option.some.injEq, Prod.mk.injEq] at H
 obtain ⟨rfl, rfl⟩ := H
 go_enter Try.func18, Try.ntmps18
 go_wp2_with (first | ((with_reducible refine zn (N := 1) rfl ?_); refine bx (N := 1) #[.int .i8 a0_0, .int .i8 a0_1, .slice A0_2 l0_2.length c0_2] 28 rfl ?_; intro gb272 hg w37 hbox hb; have BK272 := za.mk hbox; have GW272 := gB hg; have GE272 := GW272; replace HB := za.mk (ze sB hb); clear hb hbox hg; obtain ⟨hcz38_0, hcz38_1, hcz38_2⟩ := xc3 BK272; obtain ⟨hfz38_0, hfz38_1, hfz38_2⟩ := xf3 BK272) | ((with_reducible refine zo (f := 56) rfl ?_); refine gz (some 11) Try.func56 #[.agg #[.int .i8 a0_0, .int .i8 a0_1, .slice A0_2 l0_2.length c0_2]] rfl rfl ?_; (with_reducible refine (impl_ValidFixed.calls k a0_0 a0_1 _ _ l0_2 false _ ?side1 ?side2 A2.out).mono ?_); (case side1 => exact uC HR0_2 HB); (case side2 => exact HC0_2.out); rintro e w39 ⟨rfl, hb⟩; refine ⟨_, rfl, ?_⟩; replace BK272 := dK BK272 hb; replace HB := za.mk (ze sB hb); try clear hb))
 go_ret2
 exact ⟨by first | rfl | (simp [zk, zj] <;> rfl) | (simp [*, zk, zj] <;> rfl), sB⟩

end Go.Proofs.Ytmfbcklaomigaaa.N
