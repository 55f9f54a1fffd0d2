-- Written by wip/tools/myprint.py, a program of this session, by way of the kit's print.
import Derived.Test.YteciomagemjjaaaJx0
import Derived.Test.YteciomagemjjaaaLPrJ
namespace Go.Proofs.Yteciomagemjjaaa.J
open Go.RowKit Go.Proofs.YteciomagemjjaaaW.PrintWords Go.Proofs.YteciomagemjjaaaW.PrintLast Go.Proofs.YteciomagemjjaaaW.PrintMore
attribute [local go_sem] zna zpa zua zva zia zja zqa zoa   -- for this text's walks alone
set_option linter.unusedVariables false
set_option linter.unusedSimpArgs false

/-! ### spec_l02All: function 95 -/
mutual
def spec_l02All.l0 : Nat → List (S80) → Int → Int → Option ((List (S80)))
 | 0, _, _, _ => none
 | k + 1, x3, x4, x5 => if x5 < x4 then (spec_l02All.l1 k x3 x4 x5 0) else (spec_l02All.l2 k x3 x4 1)
def spec_l02All.l1 : Nat → List (S80) → Int → Int → Int → Option ((List (S80)))
 | 0, _, _, _, _ => none
 | k + 1, x3, x4, x5, x6 => if x6 < x4 then (if x3.length < 46912496118442 then (spec_l02All.l1 k (x3 ++ [(⟨0, x5, x6⟩ : S80)]) x4 x5 (IntKind.i8.wrap (x6 + 1))) else (none)) else (spec_l02All.l0 k x3 x4 (IntKind.i8.wrap (x5 + 1)))
def spec_l02All.l2 : Nat → List (S80) → Int → Int → Option ((List (S80)))
 | 0, _, _, _ => none
 | k + 1, x3, x4, x7 => if x7 ≤ 2 then (spec_l02All.l3 k x3 x4 x7 0) else (some x3)
def spec_l02All.l3 : Nat → List (S80) → Int → Int → Int → Option ((List (S80)))
 | 0, _, _, _, _ => none
 | k + 1, x3, x4, x7, x8 => if x8 < x4 then (if x3.length < 46912496118442 then (spec_l02All.l3 k (x3 ++ [(⟨x7, x8, 0⟩ : S80)]) x4 x7 (IntKind.i8.wrap (x8 + 1))) else (none)) else (spec_l02All.l2 k x3 x4 (IntKind.i8.wrap (x7 + 1)))
end
def spec_l02All.f (k : Nat) (l0_0 : List Int) (a0_1 : Int) (a0_2 : Int) (a0_3 : Int) (a0_4 : Int) (a0_5 : Bool) : Option ((List (S80))) := spec_l02All.l0 k (([] : List (S80))) (IntKind.i8.wrap ((l0_0.length : Int))) 0
set_option maxHeartbeats 8000000 in
set_option maxRecDepth 100000 in
theorem spec_l02All.calls (k : Nat) (g0 : Nat) (A0_0 : Option Addr) (c0_0 : Nat) (l0_0 : List Int) (a0_1 : Int) (a0_2 : Int) (a0_3 : Int) (a0_4 : Int) (a0_5 : Bool) (r : List (S80)) (w : World) (hb0 : w.heap[g0]? = some (.cells #[.slice A0_0 l0_0.length c0_0, .int .i16 a0_1, .int .i16 a0_2, .int .i16 a0_3, .int .i16 a0_4, .bool a0_5] 29 (0, 0))) (hr0_0 : Kd.C (Kd.int .i16) w A0_0 l0_0.length l0_0) (hc0_0 : l0_0.length ≤ c0_0) (h : spec_l02All.f k l0_0 a0_1 a0_2 a0_3 a0_4 a0_5 = some r) :
  Calls Try.prog 95 #[.pointer (some ⟨g0, 0, none⟩)] w fun e w' => ∃ v0_ : Value, e = .returned (v0_) ∧ Kd.R k80 80 w' w.heap.size (fun _ => True) v0_ r ∧ Below w.heap.size w w' := by
 have hu80 := Try.underlying80
 have HR0_0 := za.mk hr0_0
 have HC0_0 := za.mk hc0_0
 clear hr0_0 hc0_0
 have BK0 := za.mk hb0
 clear hb0
 have HB := za.mk (Below.refl w.heap.size w)
 have H : (spec_l02All.l0 k (([] : List (S80))) (IntKind.i8.wrap ((l0_0.length : Int))) 0) = some r := h
 clear h
 obtain ⟨y208, hy208⟩ : ∃ y_ : List (S80), y_ = (([] : List (S80))) := ⟨_, rfl⟩
 replace H : (spec_l02All.l0 k y208 (IntKind.i8.wrap ((l0_0.length : Int))) 0) = some r := by first | (rw [hy208]; with_reducible exact H) | (have H2_ := (Option.bind_some _ _).symm.trans H; rw [hy208]; with_reducible exact H2_) | (have H2_ := (Option.bind_some _ _).symm.trans H; with_reducible exact H2_) | with_reducible exact H | (rw [hy208]; exact H) | exact H
 have Ny208 := za.mk hy208
 clear hy208
 have H' := za.mk H
 clear H
 go_enter Try.func95, Try.ntmps95
 go_wp2_with (first | ((with_reducible refine zu (N := 9) rfl ?_); refine Kd.R_lit k80 _ 80 ?hg (N := 9) ?hd (xs := ([] : List (S80))) (inner := []) (ok := fun _ => True) (okp := fun _ => True) ?hr ?hp (fun _ hk => hk) trivial (Below.refl _ _) (Nat.le_refl _) (by simp) ?_; (case hd => rfl); (case hg => rfl); (case hr => first | (go_simp; done) | (go_simp; rfl)); (case hp => exact (Reps.none _ _)); intro v209 w2 ho3 hb hg_ hnew_; clear hg_ hnew_; (first | rw [← Ny208.out] at ho3 | (simp only [Int.reduceToNat] at ho3; rw [← Ny208.out] at ho3)); have HO210 := za.mk (Kd.R_lower ho3 (zaa sB)); replace BK0 := dK BK0 hb; replace HB := za.mk (zh sB hb); clear hb ho3; obtain ⟨hcz4_0, hcz4_1, hcz4_2, hcz4_3, hcz4_4, hcz4_5⟩ := xc6 BK0; obtain ⟨hfz4_0, hfz4_1, hfz4_2, hfz4_3, hfz4_4, hfz4_5⟩ := xf6 BK0))
 go_loopg [3, 5] k (fun kq v3 v5 w' => ∃ (x3_1 : List (S80)) (x5_1 : Int), v5 = .int .i8 x5_1 ∧ za (spec_l02All.l0 kq x3_1 (IntKind.i8.wrap ((l0_0.length : Int))) x5_1 = some r) ∧ za (kq ≤ k) ∧ za (Kd.R k80 80 w' w.heap.size (fun _ => True) v3 x3_1) ∧ za (w'.heap[g0]? = some (.cells #[(.slice A0_0 l0_0.length c0_0), .int .i16 a0_1, .int .i16 a0_2, .int .i16 a0_3, .int .i16 a0_4, .bool a0_5] 29 (0, 0))) ∧ za (Below w.heap.size w w'))
 case atStart => exact ⟨(y208), (0), (by first | rfl | (simp; done) | (simp [*]; done)), H', ⟨Nat.le_refl _⟩, ⟨uR HO210⟩, ⟨uK BK0⟩, ⟨sB⟩⟩
 case round =>
  clear H'
  try clear p2
  try clear hcz4_0 hcz4_1 hcz4_2 hcz4_3 hcz4_4 hcz4_5
  try clear hfz4_0 hfz4_1 hfz4_2 hfz4_3 hfz4_4 hfz4_5
  obtain ⟨x3_1, x5_1, rfl, HA, HK1, HO_3, BK0, HB⟩ := hrel
  cases gk with
  | zero => exact absurd HA.out (by simp [spec_l02All.l0])
  | succ k1 =>
   have H := HA.out
   clear HA
   simp only [spec_l02All.l0] at H
   by_cases c5 : x5_1 < (IntKind.i8.wrap ((l0_0.length : Int)))
   ·rw [if_pos c5] at H
    have c5b0 : decide (x5_1 < (IntKind.i8.wrap ((l0_0.length : Int)))) = true := decide_eq_true c5
    clear c5
    have H' := za.mk H
    clear H
    go_wp2
    go_loopg [3, 6] k1 (fun kq v3 v6 w' => ∃ (x3_2 : List (S80)) (x6_2 : Int), v6 = .int .i8 x6_2 ∧ za (spec_l02All.l1 kq x3_2 (IntKind.i8.wrap ((l0_0.length : Int))) x5_1 x6_2 = some r) ∧ za (kq ≤ k1) ∧ za (Kd.R k80 80 w' w.heap.size (fun _ => True) v3 x3_2) ∧ za (w'.heap[g0]? = some (.cells #[(.slice A0_0 l0_0.length c0_0), .int .i16 a0_1, .int .i16 a0_2, .int .i16 a0_3, .int .i16 a0_4, .bool a0_5] 29 (0, 0))) ∧ za (Below w.heap.size w w'))
    case atStart => exact ⟨(x3_1), (0), (by first | rfl | (simp; done) | (simp [*]; done)), H', ⟨Nat.le_refl _⟩, ⟨uR HO_3⟩, ⟨uK BK0⟩, ⟨sB⟩⟩
    case round =>
     clear H'
     try clear p2
     try clear c5
     try clear c5b0
     try clear hcz4_0 hcz4_1 hcz4_2 hcz4_3 hcz4_4 hcz4_5
     try clear hfz4_0 hfz4_1 hfz4_2 hfz4_3 hfz4_4 hfz4_5
     try clear p2
     obtain ⟨x3_2, x6_2, rfl, HA, HK2, HO_3, BK0, HB⟩ := hrel
     cases gk with
     | zero => exact absurd HA.out (by simp [spec_l02All.l1])
     | succ k2 =>
      have H := HA.out
      clear HA
      simp only [spec_l02All.l1] at H
      by_cases c6 : x6_2 < (IntKind.i8.wrap ((l0_0.length : Int)))
      ·rw [if_pos c6] at H
       have c6b0 : decide (x6_2 < (IntKind.i8.wrap ((l0_0.length : Int)))) = true := decide_eq_true c6
       clear c6
       by_cases c7 : x3_2.length < 46912496118442
       ·rw [if_pos c7] at H
        have LMc7 := za.mk c7
        clear c7
        obtain ⟨y211, hy211⟩ : ∃ y_ : List (S80), y_ = (x3_2 ++ [(⟨0, x5_1, x6_2⟩ : S80)]) := ⟨_, rfl⟩
        replace H : (spec_l02All.l1 k2 y211 (IntKind.i8.wrap ((l0_0.length : Int))) x5_1 (IntKind.i8.wrap (x6_2 + 1))) = some r := by first | (rw [hy211]; with_reducible exact H) | (have H2_ := (Option.bind_some _ _).symm.trans H; rw [hy211]; with_reducible exact H2_) | (have H2_ := (Option.bind_some _ _).symm.trans H; with_reducible exact H2_) | with_reducible exact H | (rw [hy211]; exact H) | exact H
        have Ny211 := za.mk hy211
        clear hy211
        have H' := za.mk H
        clear H
        go_wp2_with (first | ((with_reducible refine zbb (b := .append) (xs := #[.tmp 26, .tmp 30]) rfl ?_); at_builtin; refine Kd.R_append k80 (w0 := w) w.heap.size rfl (.tmp 26) (.tmp 30) 40 80 (.agg #[(.int .i8 0), (.int .i8 0), (.int .i8 0)]) 3 rfl Try.underlying40 zqe rfl (by decide) (by omega) u3 x3_2 (⟨0, x5_1, x6_2⟩ : S80) [.int .i8 0, .int .i8 x5_1, .int .i8 x6_2] (fun _ => True) (fun _ => False) rfl rfl ?aP (fun _ hk => hk.elim) ?aF ?aO ?aB ?aS ?aL ?_; (case aP => exact zhc _ _ _ (⟨0, x5_1, x6_2⟩ : S80)); (case aB => exact sB); (case aF => exact (fun _ _ => trivial)); (case aO => exact (uR HO_3)); (case aS => exact (zaa sB)); (case aL => have := LMc7.out; omega); intro v212 w8 ho hb hg hat; rw [← Ny211.out] at ho; have HO213 := za.mk ho; replace BK0 := za.mk (zga (g := g0) (o := .cells #[.slice A0_0 l0_0.length c0_0, .int .i16 a0_1, .int .i16 a0_2, .int .i16 a0_3, .int .i16 a0_4, .bool a0_5] 29 (0, 0)) (uK BK0) hg (Kd.R_ne HO_3.out BK0.out (by decide))); replace HB := za.mk hb; clear HO_3; clear ho hb hg hat))
        go_roundg k2
        case measure => have := HK1.out; have := HK2.out; omega
        case rel => exact ⟨(y211), (IntKind.i8.wrap (x6_2 + 1)), (by first | rfl | (simp; done) | (simp [*]; done)), H', ⟨by have := HK1.out; have := HK2.out; omega⟩, ⟨uR HO213⟩, ⟨uK BK0⟩, ⟨sB⟩⟩
       rw [if_neg c7] at H
       exact absurd H (by simp)
      rw [if_neg c6] at H
      have c6b0 : decide (x6_2 < (IntKind.i8.wrap ((l0_0.length : Int)))) = false := decide_eq_false c6
      clear c6
      have H' := za.mk H
      clear H
      go_wp2
      go_roundg k2
      case measure => have := HK1.out; have := HK2.out; omega
      case rel => exact ⟨(x3_2), (IntKind.i8.wrap (x5_1 + 1)), (by first | rfl | (simp; done) | (simp [*]; done)), H', ⟨by have := HK1.out; have := HK2.out; omega⟩, ⟨uR HO_3⟩, ⟨uK BK0⟩, ⟨sB⟩⟩
   rw [if_neg c5] at H
   have c5b0 : decide (x5_1 < (IntKind.i8.wrap ((l0_0.length : Int)))) = false := decide_eq_false c5
   clear c5
   have H' := za.mk H
   clear H
   go_wp2
   go_loopg [3, 7] k1 (fun kq v3 v7 w' => ∃ (x3_2 : List (S80)) (x7_2 : Int), v7 = .int .i8 x7_2 ∧ za (spec_l02All.l2 kq x3_2 (IntKind.i8.wrap ((l0_0.length : Int))) x7_2 = some r) ∧ za (kq ≤ k1) ∧ za (Kd.R k80 80 w' w.heap.size (fun _ => True) v3 x3_2) ∧ za (w'.heap[g0]? = some (.cells #[(.slice A0_0 l0_0.length c0_0), .int .i16 a0_1, .int .i16 a0_2, .int .i16 a0_3, .int .i16 a0_4, .bool a0_5] 29 (0, 0))) ∧ za (Below w.heap.size w w'))
   case atStart => exact ⟨(x3_1), (1), (by first | rfl | (simp; done) | (simp [*]; done)), H', ⟨Nat.le_refl _⟩, ⟨uR HO_3⟩, ⟨uK BK0⟩, ⟨sB⟩⟩
   case round =>
    clear H'
    try clear p2
    try clear c5
    try clear c5b0
    try clear c6
    try clear c6b0
    try clear c7
    try clear hcz4_0 hcz4_1 hcz4_2 hcz4_3 hcz4_4 hcz4_5
    try clear hfz4_0 hfz4_1 hfz4_2 hfz4_3 hfz4_4 hfz4_5
    try clear p2
    obtain ⟨x3_2, x7_2, rfl, HA, HK2, HO_3, BK0, HB⟩ := hrel
    cases gk with
    | zero => exact absurd HA.out (by simp [spec_l02All.l2])
    | succ k2 =>
     have H := HA.out
     clear HA
     simp only [spec_l02All.l2] at H
     by_cases c9 : x7_2 ≤ 2
     ·rw [if_pos c9] at H
      have c9b0 : decide (x7_2 ≤ 2) = true := decide_eq_true c9
      clear c9
      have H' := za.mk H
      clear H
      go_wp2
      go_loopg [3, 8] k2 (fun kq v3 v8 w' => ∃ (x3_3 : List (S80)) (x8_3 : Int), v8 = .int .i8 x8_3 ∧ za (spec_l02All.l3 kq x3_3 (IntKind.i8.wrap ((l0_0.length : Int))) x7_2 x8_3 = some r) ∧ za (kq ≤ k2) ∧ za (Kd.R k80 80 w' w.heap.size (fun _ => True) v3 x3_3) ∧ za (w'.heap[g0]? = some (.cells #[(.slice A0_0 l0_0.length c0_0), .int .i16 a0_1, .int .i16 a0_2, .int .i16 a0_3, .int .i16 a0_4, .bool a0_5] 29 (0, 0))) ∧ za (Below w.heap.size w w'))
      case atStart => exact ⟨(x3_2), (0), (by first | rfl | (simp; done) | (simp [*]; done)), H', ⟨Nat.le_refl _⟩, ⟨uR HO_3⟩, ⟨uK BK0⟩, ⟨sB⟩⟩
      case round =>
       clear H'
       try clear p2
       try clear c5
       try clear c5b0
       try clear c6
       try clear c6b0
       try clear c7
       try clear c9
       try clear c9b0
       try clear hcz4_0 hcz4_1 hcz4_2 hcz4_3 hcz4_4 hcz4_5
       try clear hfz4_0 hfz4_1 hfz4_2 hfz4_3 hfz4_4 hfz4_5
       try clear p2
       obtain ⟨x3_3, x8_3, rfl, HA, HK3, HO_3, BK0, HB⟩ := hrel
       cases gk with
       | zero => exact absurd HA.out (by simp [spec_l02All.l3])
       | succ k3 =>
        have H := HA.out
        clear HA
        simp only [spec_l02All.l3] at H
        by_cases c10 : x8_3 < (IntKind.i8.wrap ((l0_0.length : Int)))
        ·rw [if_pos c10] at H
         have c10b0 : decide (x8_3 < (IntKind.i8.wrap ((l0_0.length : Int)))) = true := decide_eq_true c10
         clear c10
         by_cases c11 : x3_3.length < 46912496118442
         ·rw [if_pos c11] at H
          have LMc11 := za.mk c11
          clear c11
          obtain ⟨y214, hy214⟩ : ∃ y_ : List (S80), y_ = (x3_3 ++ [(⟨x7_2, x8_3, 0⟩ : S80)]) := ⟨_, rfl⟩
          replace H : (spec_l02All.l3 k3 y214 (IntKind.i8.wrap ((l0_0.length : Int))) x7_2 (IntKind.i8.wrap (x8_3 + 1))) = some r := by first | (rw [hy214]; with_reducible exact H) | (have H2_ := (Option.bind_some _ _).symm.trans H; rw [hy214]; with_reducible exact H2_) | (have H2_ := (Option.bind_some _ _).symm.trans H; with_reducible exact H2_) | with_reducible exact H | (rw [hy214]; exact H) | exact H
          have Ny214 := za.mk hy214
          clear hy214
          have H' := za.mk H
          clear H
          go_wp2_with (first | ((with_reducible refine zbb (b := .append) (xs := #[.tmp 41, .tmp 45]) rfl ?_); at_builtin; refine Kd.R_append k80 (w0 := w) w.heap.size rfl (.tmp 41) (.tmp 45) 40 80 (.agg #[(.int .i8 0), (.int .i8 0), (.int .i8 0)]) 3 rfl Try.underlying40 zqe rfl (by decide) (by omega) u3 x3_3 (⟨x7_2, x8_3, 0⟩ : S80) [.int .i8 x7_2, .int .i8 x8_3, .int .i8 0] (fun _ => True) (fun _ => False) rfl rfl ?aP (fun _ hk => hk.elim) ?aF ?aO ?aB ?aS ?aL ?_; (case aP => exact zhc _ _ _ (⟨x7_2, x8_3, 0⟩ : S80)); (case aB => exact sB); (case aF => exact (fun _ _ => trivial)); (case aO => exact (uR HO_3)); (case aS => exact (zaa sB)); (case aL => have := LMc11.out; omega); intro v215 w12 ho hb hg hat; rw [← Ny214.out] at ho; have HO216 := za.mk ho; replace BK0 := za.mk (zga (g := g0) (o := .cells #[.slice A0_0 l0_0.length c0_0, .int .i16 a0_1, .int .i16 a0_2, .int .i16 a0_3, .int .i16 a0_4, .bool a0_5] 29 (0, 0)) (uK BK0) hg (Kd.R_ne HO_3.out BK0.out (by decide))); replace HB := za.mk hb; clear HO_3; clear ho hb hg hat))
          go_roundg k3
          case measure => have := HK1.out; have := HK2.out; have := HK3.out; omega
          case rel => exact ⟨(y214), (IntKind.i8.wrap (x8_3 + 1)), (by first | rfl | (simp; done) | (simp [*]; done)), H', ⟨by have := HK1.out; have := HK2.out; have := HK3.out; omega⟩, ⟨uR HO216⟩, ⟨uK BK0⟩, ⟨sB⟩⟩
         rw [if_neg c11] at H
         exact absurd H (by simp)
        rw [if_neg c10] at H
        have c10b0 : decide (x8_3 < (IntKind.i8.wrap ((l0_0.length : Int)))) = false := decide_eq_false c10
        clear c10
        have H' := za.mk H
        clear H
        go_wp2
        go_roundg k3
        case measure => have := HK1.out; have := HK2.out; have := HK3.out; omega
        case rel => exact ⟨(x3_3), (IntKind.i8.wrap (x7_2 + 1)), (by first | rfl | (simp; done) | (simp [*]; done)), H', ⟨by have := HK1.out; have := HK2.out; have := HK3.out; omega⟩, ⟨uR HO_3⟩, ⟨uK BK0⟩, ⟨sB⟩⟩
     rw [if_neg c9] at H
     have c9b0 : decide (x7_2 ≤ 2) = false := decide_eq_false c9
     clear c9
     obtain rfl := Option.some.inj H
     go_wp2
     go_ret
     exact ⟨_, by first | rfl | (simp [zj, zk] <;> rfl) | (simp [*, zj, zk] <;> rfl), by (with_reducible repeat (first | apply Kd.R_alloc | apply Kd.R_drewN | apply Kd.R_drew)); exact HO_3.out, sB⟩

-- NOT PRINTED: function 58 (spec_l02Find)

end Go.Proofs.Yteciomagemjjaaa.J
