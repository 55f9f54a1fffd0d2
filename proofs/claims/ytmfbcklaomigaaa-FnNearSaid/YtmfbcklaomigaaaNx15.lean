-- Written by wip/tools/myprint.py, a program of this session, by way of the kit's print.
import Derived.Test.YtmfbcklaomigaaaNx0
import Derived.Test.YtmfbcklaomigaaaNx3
import Derived.Test.YtmfbcklaomigaaaNx14
import Derived.Test.YtmfbcklaomigaaaLPrN
namespace Go.Proofs.Ytmfbcklaomigaaa.N
open Go.RowKit Go.Proofs.YtmfbcklaomigaaaW.PrintWords Go.Proofs.YtmfbcklaomigaaaW.PrintLast Go.Proofs.YtmfbcklaomigaaaW.PrintMore
attribute [local go_sem] zqa zpa zwa zxa zla zka zra zta   -- for this text's walks alone
set_option linter.unusedVariables false
set_option linter.unusedSimpArgs false

/-! ### spec_CasesOf: function 24 -/
def spec_CasesOf.f (k : Nat) (a0_0 : Int) (a0_1 : Int) (a0_2 : Bool) (a0_3 : Bool) : Option ((List (S38)) × Int) := (spec_l03Ok.f a0_0 a0_1 a0_2 a0_3).bind fun t314 => (if t314 = true then ((spec_l03Cases.f k a0_0 a0_1 a0_2 a0_3).bind fun t315 => (some (t315, 0))) else (some ((([] : List (S38))), 1)))
set_option maxHeartbeats 8000000 in
set_option maxRecDepth 100000 in
theorem spec_CasesOf.calls (k : Nat) (a0_0 : Int) (a0_1 : Int) (a0_2 : Bool) (a0_3 : Bool) (r1 : List (S38)) (r2 : Int) (w : World) (h : spec_CasesOf.f k a0_0 a0_1 a0_2 a0_3 = some (r1, r2)) :
  Calls Try.prog 24 #[.agg #[.int .i8 a0_0, .int .i8 a0_1, .bool a0_2, .bool a0_3]] w fun e w' => ∃ v0_ : Value, e = .returned (.tuple #[v0_, .int .i64 r2]) ∧ Kd.R k38 38 w' w.heap.size (fun _ => True) v0_ r1 ∧ Below w.heap.size w w' := by
 have hu50 := Try.underlying50
 have HB := za.mk (Below.refl w.heap.size w)
 have H : ((spec_l03Ok.f a0_0 a0_1 a0_2 a0_3).bind fun t314 => (if t314 = true then ((spec_l03Cases.f k a0_0 a0_1 a0_2 a0_3).bind fun t315 => (some (t315, 0))) else (some ((([] : List (S38))), 1)))) = some (r1, r2) := h
 clear h
 replace H := Option.bind_eq_some_iff.mp H
 obtain ⟨t314, A20, H⟩ := H
 replace H : (if t314 = true then ((spec_l03Cases.f k a0_0 a0_1 a0_2 a0_3).bind fun t315 => (some (t315, 0))) else (some ((([] : List (S38))), 1))) = some (r1, r2) := H
 have A2 := za.mk A20
 clear A20
 by_cases c3 : t314 = true
 ·subst c3
  have H1 : ((spec_l03Cases.f k a0_0 a0_1 a0_2 a0_3).bind fun t315 => (some (t315, 0))) = some (r1, r2) := by rw [if_pos rfl] at H; exact H
  clear H
  have H := H1
  clear H1
  replace H := Option.bind_eq_some_iff.mp H
  obtain ⟨t315, A40, H⟩ := H
  replace H : (some (t315, 0)) = some (r1, r2) := H
  have A4 := za.mk A40
  clear A40
  simp only [Option.some.injEq, Prod.mk.injEq] at H
  obtain ⟨rfl, rfl⟩ := H
  go_enter Try.func24, Try.ntmps24
  go_wp2_with (first | ((with_reducible refine zn (N := 1) rfl ?_); refine bx (N := 1) #[.int .i8 a0_0, .int .i8 a0_1, .bool a0_2, .bool a0_3] 50 rfl ?_; intro gb313 hg w5 hbox hb; have BK313 := za.mk hbox; have GW313 := gB hg; have GE313 := GW313; replace HB := za.mk (ze sB hb); clear hb hbox hg; obtain ⟨hcz6_0, hcz6_1, hcz6_2, hcz6_3⟩ := xc4 BK313; obtain ⟨hfz6_0, hfz6_1, hfz6_2, hfz6_3⟩ := xf4 BK313) | ((with_reducible refine zo (f := 72) rfl ?_); refine gz (some 5) Try.func72 #[.agg #[.int .i8 a0_0, .int .i8 a0_1, .bool a0_2, .bool a0_3]] rfl rfl ?_; (with_reducible refine (spec_l03Ok.calls a0_0 a0_1 a0_2 a0_3 true _ A2.out).mono ?_); rintro e w7 ⟨rfl, hb⟩; refine ⟨_, rfl, ?_⟩; replace BK313 := dK BK313 hb; replace HB := za.mk (ze sB hb); try clear hb; obtain ⟨hcz8_0, hcz8_1, hcz8_2, hcz8_3⟩ := xc4 BK313; obtain ⟨hfz8_0, hfz8_1, hfz8_2, hfz8_3⟩ := xf4 BK313) | ((with_reducible refine zo (f := 73) rfl ?_); refine gz (some 9) Try.func73 #[.agg #[.int .i8 a0_0, .int .i8 a0_1, .bool a0_2, .bool a0_3]] rfl rfl ?_; (with_reducible refine (spec_l03Cases.calls k a0_0 a0_1 a0_2 a0_3 t315 _ A4.out).mono ?_); rintro e w9 ⟨v316, rfl, ho0, hb⟩; refine ⟨_, rfl, ?_⟩; have HO317 := za.mk (Kd.R_lower ho0 (zv sB)); replace BK313 := dK BK313 hb; replace HB := za.mk (ze sB hb); try clear hb))
  go_ret2
  exact ⟨_, by first | rfl | (simp [zk, zj] <;> rfl) | (simp [*, zk, zj] <;> rfl), by (with_reducible repeat (first | apply Kd.R_alloc | apply Kd.R_drewN | apply Kd.R_drew)); exact HO317.out, sB⟩
 replace c3 := Bool.eq_false_iff.mpr c3
 subst c3
 have H1 : (some ((([] : List (S38))), 1)) = some (r1, r2) := by rw [if_neg (show ¬ (false = true) by decide)] at H; exact H
 clear H
 have H := H1
 clear H1
 obtain ⟨y318, hy318⟩ : ∃ y_ : List (S38), y_ = (([] : List (S38))) := ⟨_, rfl⟩
 replace H : (some (y318, 1)) = some (r1, r2) := by first | (rw [hy318]; with_reducible exact H) | (have H2_ := (Option.bind_some _ _).symm.trans H; rw [hy318]; with_reducible exact H2_) | (have H2_ := (Option.bind_some _ _).symm.trans H; with_reducible exact H2_) | with_reducible exact H | (rw [hy318]; exact H) | exact H
 have Ny318 := za.mk hy318
 clear hy318
 simp only [Option.some.injEq, Prod.mk.injEq] at H
 obtain ⟨rfl, rfl⟩ := H
 go_enter Try.func24, Try.ntmps24
 go_wp2_with (first | ((with_reducible refine zn (N := 1) rfl ?_); refine bx (N := 1) #[.int .i8 a0_0, .int .i8 a0_1, .bool a0_2, .bool a0_3] 50 rfl ?_; intro gb313 hg w10 hbox hb; have BK313 := za.mk hbox; have GW313 := gB hg; have GE313 := GW313; replace HB := za.mk (ze sB hb); clear hb hbox hg; obtain ⟨hcz11_0, hcz11_1, hcz11_2, hcz11_3⟩ := xc4 BK313; obtain ⟨hfz11_0, hfz11_1, hfz11_2, hfz11_3⟩ := xf4 BK313) | ((with_reducible refine zo (f := 72) rfl ?_); refine gz (some 5) Try.func72 #[.agg #[.int .i8 a0_0, .int .i8 a0_1, .bool a0_2, .bool a0_3]] rfl rfl ?_; (with_reducible refine (spec_l03Ok.calls a0_0 a0_1 a0_2 a0_3 false _ A2.out).mono ?_); rintro e w12 ⟨rfl, hb⟩; refine ⟨_, rfl, ?_⟩; replace BK313 := dK BK313 hb; replace HB := za.mk (ze sB hb); try clear hb) | ((with_reducible refine zn (N := 7) rfl ?_); refine Kd.R_lit k38 _ 38 ?hg (N := 7) ?hd (xs := ([] : List (S38))) (inner := []) (ok := fun _ => True) (okp := fun _ => True) ?hr ?hp (fun _ hk => hk) trivial (Below.refl _ _) (Nat.le_refl _) (by simp) ?_; (case hd => rfl); (case hg => rfl); (case hr => first | (go_simp; done) | (go_simp; rfl)); (case hp => exact (Reps.none _ _)); intro v319 w13 ho14 hb hg_ hnew_; clear hg_ hnew_; (first | rw [← Ny318.out] at ho14 | (simp only [Int.reduceToNat] at ho14; rw [← Ny318.out] at ho14)); have HO320 := za.mk (Kd.R_lower ho14 (zv sB)); replace BK313 := dK BK313 hb; replace HB := za.mk (ze sB hb); clear hb ho14))
 go_ret2
 exact ⟨_, by first | rfl | (simp [zk, zj] <;> rfl) | (simp [*, zk, zj] <;> rfl), by (with_reducible repeat (first | apply Kd.R_alloc | apply Kd.R_drewN | apply Kd.R_drew)); exact HO320.out, sB⟩

/-! ### spec_l04Word: function 86 -/
def spec_l04Word.l0 : Nat → Int → Int → Int → Int → Int → Int → Option (Bool)
 | 0, _, _, _, _, _, _ => none
 | k + 1, x0, x5, x322000, x322001, x322002, x322003 => if x5 < 4 then (if 0 ≤ x5 then (if (rd [x322000, x322001, x322002, x322003] x5) < (-1) then (some false) else (if (rd [x322000, x322001, x322002, x322003] x5) > 1 then (some false) else (if x5 ≥ x0 then (if (rd [x322000, x322001, x322002, x322003] x5) = 0 then (spec_l04Word.l0 k x0 (wrap64 (x5 + 1)) x322000 x322001 x322002 x322003) else (some false)) else (spec_l04Word.l0 k x0 (wrap64 (x5 + 1)) x322000 x322001 x322002 x322003)))) else (none)) else ((spec_l04Letters.f x0).bind fun t328 => (some t328))
def spec_l04Word.f (k : Nat) (a0 : Int) (a1_0 : Int) (a1_1 : Int) (a1_2 : Int) (a1_3 : Int) : Option (Bool) := spec_l04Word.l0 k a0 0 a1_0 a1_1 a1_2 a1_3
set_option maxHeartbeats 8000000 in
set_option maxRecDepth 100000 in
theorem spec_l04Word.calls (k : Nat) (a0 : Int) (a1_0 : Int) (a1_1 : Int) (a1_2 : Int) (a1_3 : Int) (r : Bool) (w : World) (h : spec_l04Word.f k a0 a1_0 a1_1 a1_2 a1_3 = some r) :
  Calls Try.prog 86 #[.int .i64 a0, .agg #[.int .i8 a1_0, .int .i8 a1_1, .int .i8 a1_2, .int .i8 a1_3]] w fun e w' => e = .returned (.bool r) ∧ Below w.heap.size w w' := by
 have hu43 := Try.underlying43
 have HB := za.mk (Below.refl w.heap.size w)
 have H : (spec_l04Word.l0 k a0 0 a1_0 a1_1 a1_2 a1_3) = some r := h
 clear h
 have H' := za.mk H
 clear H
 go_enter Try.func86, Try.ntmps86
 go_wp2_with (first | ((with_reducible refine zn (N := 3) rfl ?_); refine bx (N := 3) #[.int .i8 a1_0, .int .i8 a1_1, .int .i8 a1_2, .int .i8 a1_3] 43 rfl ?_; intro gb321 hg w3 hbox hb; have BK321 := za.mk hbox; have GW321 := gB hg; have GE321 := GW321; replace HB := za.mk (ze sB hb); clear hb hbox hg))
 go_loopg [5] k (fun kq v5 w' => ∃ (x5_1 : Int), v5 = .int .i64 x5_1 ∧ za (spec_l04Word.l0 kq a0 x5_1 a1_0 a1_1 a1_2 a1_3 = some r) ∧ za (kq ≤ k) ∧ za (w'.heap[gb321]? = some (.cells #[.int .i8 a1_0, .int .i8 a1_1, .int .i8 a1_2, .int .i8 a1_3] 43 (0, 0))) ∧ za (Below w.heap.size w w'))
 case atStart => exact ⟨(0), (by first | rfl | (simp; done) | (simp [*]; done)), H', ⟨Nat.le_refl _⟩, ⟨uK BK321⟩, ⟨sB⟩⟩
 case round =>
  clear H'
  try clear p2
  obtain ⟨x5_1, rfl, HA, HK1, BK321, HB⟩ := hrel
  cases gk with
  | zero => exact absurd HA.out (by simp [spec_l04Word.l0])
  | succ k1 =>
   have H := HA.out
   clear HA
   simp only [spec_l04Word.l0] at H
   by_cases c4 : x5_1 < 4
   ·rw [if_pos c4] at H
    have c4b0 : decide (x5_1 < 4) = true := decide_eq_true c4
    clear c4
    by_cases c5 : 0 ≤ x5_1
    ·rw [if_pos c5] at H
     have c5b0 : decide (0 ≤ x5_1) = true := decide_eq_true c5
     clear c5
     by_cases c6 : (rd [a1_0, a1_1, a1_2, a1_3] x5_1) < (-1)
     ·rw [if_pos c6] at H
      have c6b0 : decide ((rd [a1_0, a1_1, a1_2, a1_3] x5_1) < (-1)) = true := decide_eq_true c6
      clear c6
      obtain rfl := Option.some.inj H
      have p7 : 0 ≤ (x5_1 : Int) := of_decide_eq_true (by first | (with_reducible assumption) | assumption)
      have q7 : x5_1 < (4 : Int) := of_decide_eq_true (by first | (with_reducible assumption) | assumption)
      replace p7 := eq_true p7
      replace q7 := eq_true q7
      obtain ⟨hcz8_0, hcz8_1, hcz8_2, hcz8_3⟩ := xc4 BK321
      obtain ⟨hfz8_0, hfz8_1, hfz8_2, hfz8_3⟩ := xf4 BK321
      have hx9_0 : wr.cell? ⟨gb321, (x5_1).toNat, none⟩ = some (.int .i8 (rd [a1_0, a1_1, a1_2, a1_3] x5_1)) := (zh BK321.out _).trans (by rcases (show (x5_1 : Int) = 0 ∨ (x5_1 : Int) = 1 ∨ (x5_1 : Int) = 2 ∨ (x5_1 : Int) = 3 by have hp_ : 0 ≤ (x5_1 : Int) := of_decide_eq_true (by first | (with_reducible assumption) | assumption); have hq_ : x5_1 < (4 : Int) := of_decide_eq_true (by first | (with_reducible assumption) | assumption); omega) with h_ | h_ | h_ | h_ <;> rw [h_] <;> rfl)
      go_wp2
      go_ret
      exact ⟨by first | rfl | (simp [zk, zj] <;> rfl) | (simp [*, zk, zj] <;> rfl), sB⟩
     rw [if_neg c6] at H
     have c6b0 : decide ((rd [a1_0, a1_1, a1_2, a1_3] x5_1) < (-1)) = false := decide_eq_false c6
     clear c6
     by_cases c10 : (rd [a1_0, a1_1, a1_2, a1_3] x5_1) > 1
     ·rw [if_pos c10] at H
      have c10b0 : decide (1 < (rd [a1_0, a1_1, a1_2, a1_3] x5_1)) = true := decide_eq_true c10
      clear c10
      obtain rfl := Option.some.inj H
      have p11 : 0 ≤ (x5_1 : Int) := of_decide_eq_true (by first | (with_reducible assumption) | assumption)
      have q11 : x5_1 < (4 : Int) := of_decide_eq_true (by first | (with_reducible assumption) | assumption)
      replace p11 := eq_true p11
      replace q11 := eq_true q11
      obtain ⟨hcz12_0, hcz12_1, hcz12_2, hcz12_3⟩ := xc4 BK321
      obtain ⟨hfz12_0, hfz12_1, hfz12_2, hfz12_3⟩ := xf4 BK321
      have hx13_0 : wr.cell? ⟨gb321, (x5_1).toNat, none⟩ = some (.int .i8 (rd [a1_0, a1_1, a1_2, a1_3] x5_1)) := (zh BK321.out _).trans (by rcases (show (x5_1 : Int) = 0 ∨ (x5_1 : Int) = 1 ∨ (x5_1 : Int) = 2 ∨ (x5_1 : Int) = 3 by have hp_ : 0 ≤ (x5_1 : Int) := of_decide_eq_true (by first | (with_reducible assumption) | assumption); have hq_ : x5_1 < (4 : Int) := of_decide_eq_true (by first | (with_reducible assumption) | assumption); omega) with h_ | h_ | h_ | h_ <;> rw [h_] <;> rfl)
      have p14 : 0 ≤ (x5_1 : Int) := of_decide_eq_true (by first | (with_reducible assumption) | assumption)
      have q14 : x5_1 < (4 : Int) := of_decide_eq_true (by first | (with_reducible assumption) | assumption)
      replace p14 := eq_true p14
      replace q14 := eq_true q14
      have hx15_0 : wr.cell? ⟨gb321, (x5_1).toNat, none⟩ = some (.int .i8 (rd [a1_0, a1_1, a1_2, a1_3] x5_1)) := (zh BK321.out _).trans (by rcases (show (x5_1 : Int) = 0 ∨ (x5_1 : Int) = 1 ∨ (x5_1 : Int) = 2 ∨ (x5_1 : Int) = 3 by have hp_ : 0 ≤ (x5_1 : Int) := of_decide_eq_true (by first | (with_reducible assumption) | assumption); have hq_ : x5_1 < (4 : Int) := of_decide_eq_true (by first | (with_reducible assumption) | assumption); omega) with h_ | h_ | h_ | h_ <;> rw [h_] <;> rfl)
      go_wp2
      go_ret
      exact ⟨by first | rfl | (simp [zk, zj] <;> rfl) | (simp [*, zk, zj] <;> rfl), sB⟩
     rw [if_neg c10] at H
     have c10b0 : decide (1 < (rd [a1_0, a1_1, a1_2, a1_3] x5_1)) = false := decide_eq_false c10
     clear c10
     by_cases c16 : x5_1 ≥ a0
     ·rw [if_pos c16] at H
      have c16b0 : decide (a0 ≤ x5_1) = true := decide_eq_true c16
      clear c16
      by_cases c17 : (rd [a1_0, a1_1, a1_2, a1_3] x5_1) = 0
      ·rw [if_pos c17] at H
       have c17b0 : ((rd [a1_0, a1_1, a1_2, a1_3] x5_1) == 0) = true := beq_iff_eq.mpr c17
       have c17b1 : ((rd [a1_0, a1_1, a1_2, a1_3] x5_1) != 0) = false := bne_eq_false_iff_eq.mpr c17
       clear c17
       have H' := za.mk H
       clear H
       have p18 : 0 ≤ (x5_1 : Int) := of_decide_eq_true (by first | (with_reducible assumption) | assumption)
       have q18 : x5_1 < (4 : Int) := of_decide_eq_true (by first | (with_reducible assumption) | assumption)
       replace p18 := eq_true p18
       replace q18 := eq_true q18
       obtain ⟨hcz19_0, hcz19_1, hcz19_2, hcz19_3⟩ := xc4 BK321
       obtain ⟨hfz19_0, hfz19_1, hfz19_2, hfz19_3⟩ := xf4 BK321
       have hx20_0 : wr.cell? ⟨gb321, (x5_1).toNat, none⟩ = some (.int .i8 (rd [a1_0, a1_1, a1_2, a1_3] x5_1)) := (zh BK321.out _).trans (by rcases (show (x5_1 : Int) = 0 ∨ (x5_1 : Int) = 1 ∨ (x5_1 : Int) = 2 ∨ (x5_1 : Int) = 3 by have hp_ : 0 ≤ (x5_1 : Int) := of_decide_eq_true (by first | (with_reducible assumption) | assumption); have hq_ : x5_1 < (4 : Int) := of_decide_eq_true (by first | (with_reducible assumption) | assumption); omega) with h_ | h_ | h_ | h_ <;> rw [h_] <;> rfl)
       have p21 : 0 ≤ (x5_1 : Int) := of_decide_eq_true (by first | (with_reducible assumption) | assumption)
       have q21 : x5_1 < (4 : Int) := of_decide_eq_true (by first | (with_reducible assumption) | assumption)
       replace p21 := eq_true p21
       replace q21 := eq_true q21
       have hx22_0 : wr.cell? ⟨gb321, (x5_1).toNat, none⟩ = some (.int .i8 (rd [a1_0, a1_1, a1_2, a1_3] x5_1)) := (zh BK321.out _).trans (by rcases (show (x5_1 : Int) = 0 ∨ (x5_1 : Int) = 1 ∨ (x5_1 : Int) = 2 ∨ (x5_1 : Int) = 3 by have hp_ : 0 ≤ (x5_1 : Int) := of_decide_eq_true (by first | (with_reducible assumption) | assumption); have hq_ : x5_1 < (4 : Int) := of_decide_eq_true (by first | (with_reducible assumption) | assumption); omega) with h_ | h_ | h_ | h_ <;> rw [h_] <;> rfl)
       have p23 : 0 ≤ (x5_1 : Int) := of_decide_eq_true (by first | (with_reducible assumption) | assumption)
       have q23 : x5_1 < (4 : Int) := of_decide_eq_true (by first | (with_reducible assumption) | assumption)
       replace p23 := eq_true p23
       replace q23 := eq_true q23
       have hx24_0 : wr.cell? ⟨gb321, (x5_1).toNat, none⟩ = some (.int .i8 (rd [a1_0, a1_1, a1_2, a1_3] x5_1)) := (zh BK321.out _).trans (by rcases (show (x5_1 : Int) = 0 ∨ (x5_1 : Int) = 1 ∨ (x5_1 : Int) = 2 ∨ (x5_1 : Int) = 3 by have hp_ : 0 ≤ (x5_1 : Int) := of_decide_eq_true (by first | (with_reducible assumption) | assumption); have hq_ : x5_1 < (4 : Int) := of_decide_eq_true (by first | (with_reducible assumption) | assumption); omega) with h_ | h_ | h_ | h_ <;> rw [h_] <;> rfl)
       go_wp2
       go_roundg k1
       case measure => have := HK1.out; omega
       case rel => exact ⟨(wrap64 (x5_1 + 1)), (by first | rfl | (simp; done) | (simp [*]; done)), H', ⟨by have := HK1.out; omega⟩, ⟨uK BK321⟩, ⟨sB⟩⟩
      rw [if_neg c17] at H
      have c17b0 : ((rd [a1_0, a1_1, a1_2, a1_3] x5_1) == 0) = false := beq_eq_false_iff_ne.mpr c17
      have c17b1 : ((rd [a1_0, a1_1, a1_2, a1_3] x5_1) != 0) = true := bne_iff_ne.mpr c17
      obtain rfl := Option.some.inj H
      have p25 : 0 ≤ (x5_1 : Int) := of_decide_eq_true (by first | (with_reducible assumption) | assumption)
      have q25 : x5_1 < (4 : Int) := of_decide_eq_true (by first | (with_reducible assumption) | assumption)
      replace p25 := eq_true p25
      replace q25 := eq_true q25
      obtain ⟨hcz26_0, hcz26_1, hcz26_2, hcz26_3⟩ := xc4 BK321
      obtain ⟨hfz26_0, hfz26_1, hfz26_2, hfz26_3⟩ := xf4 BK321
      have hx27_0 : wr.cell? ⟨gb321, (x5_1).toNat, none⟩ = some (.int .i8 (rd [a1_0, a1_1, a1_2, a1_3] x5_1)) := (zh BK321.out _).trans (by rcases (show (x5_1 : Int) = 0 ∨ (x5_1 : Int) = 1 ∨ (x5_1 : Int) = 2 ∨ (x5_1 : Int) = 3 by have hp_ : 0 ≤ (x5_1 : Int) := of_decide_eq_true (by first | (with_reducible assumption) | assumption); have hq_ : x5_1 < (4 : Int) := of_decide_eq_true (by first | (with_reducible assumption) | assumption); omega) with h_ | h_ | h_ | h_ <;> rw [h_] <;> rfl)
      have p28 : 0 ≤ (x5_1 : Int) := of_decide_eq_true (by first | (with_reducible assumption) | assumption)
      have q28 : x5_1 < (4 : Int) := of_decide_eq_true (by first | (with_reducible assumption) | assumption)
      replace p28 := eq_true p28
      replace q28 := eq_true q28
      have hx29_0 : wr.cell? ⟨gb321, (x5_1).toNat, none⟩ = some (.int .i8 (rd [a1_0, a1_1, a1_2, a1_3] x5_1)) := (zh BK321.out _).trans (by rcases (show (x5_1 : Int) = 0 ∨ (x5_1 : Int) = 1 ∨ (x5_1 : Int) = 2 ∨ (x5_1 : Int) = 3 by have hp_ : 0 ≤ (x5_1 : Int) := of_decide_eq_true (by first | (with_reducible assumption) | assumption); have hq_ : x5_1 < (4 : Int) := of_decide_eq_true (by first | (with_reducible assumption) | assumption); omega) with h_ | h_ | h_ | h_ <;> rw [h_] <;> rfl)
      have p30 : 0 ≤ (x5_1 : Int) := of_decide_eq_true (by first | (with_reducible assumption) | assumption)
      have q30 : x5_1 < (4 : Int) := of_decide_eq_true (by first | (with_reducible assumption) | assumption)
      replace p30 := eq_true p30
      replace q30 := eq_true q30
      have hx31_0 : wr.cell? ⟨gb321, (x5_1).toNat, none⟩ = some (.int .i8 (rd [a1_0, a1_1, a1_2, a1_3] x5_1)) := (zh BK321.out _).trans (by rcases (show (x5_1 : Int) = 0 ∨ (x5_1 : Int) = 1 ∨ (x5_1 : Int) = 2 ∨ (x5_1 : Int) = 3 by have hp_ : 0 ≤ (x5_1 : Int) := of_decide_eq_true (by first | (with_reducible assumption) | assumption); have hq_ : x5_1 < (4 : Int) := of_decide_eq_true (by first | (with_reducible assumption) | assumption); omega) with h_ | h_ | h_ | h_ <;> rw [h_] <;> rfl)
      go_wp2
      go_ret
      exact ⟨by first | rfl | (simp [zk, zj] <;> rfl) | (simp [*, zk, zj] <;> rfl), sB⟩
     rw [if_neg c16] at H
     have c16b0 : decide (a0 ≤ x5_1) = false := decide_eq_false c16
     clear c16
     have H' := za.mk H
     clear H
     have p32 : 0 ≤ (x5_1 : Int) := of_decide_eq_true (by first | (with_reducible assumption) | assumption)
     have q32 : x5_1 < (4 : Int) := of_decide_eq_true (by first | (with_reducible assumption) | assumption)
     replace p32 := eq_true p32
     replace q32 := eq_true q32
     obtain ⟨hcz33_0, hcz33_1, hcz33_2, hcz33_3⟩ := xc4 BK321
     obtain ⟨hfz33_0, hfz33_1, hfz33_2, hfz33_3⟩ := xf4 BK321
     have hx34_0 : wr.cell? ⟨gb321, (x5_1).toNat, none⟩ = some (.int .i8 (rd [a1_0, a1_1, a1_2, a1_3] x5_1)) := (zh BK321.out _).trans (by rcases (show (x5_1 : Int) = 0 ∨ (x5_1 : Int) = 1 ∨ (x5_1 : Int) = 2 ∨ (x5_1 : Int) = 3 by have hp_ : 0 ≤ (x5_1 : Int) := of_decide_eq_true (by first | (with_reducible assumption) | assumption); have hq_ : x5_1 < (4 : Int) := of_decide_eq_true (by first | (with_reducible assumption) | assumption); omega) with h_ | h_ | h_ | h_ <;> rw [h_] <;> rfl)
     have p35 : 0 ≤ (x5_1 : Int) := of_decide_eq_true (by first | (with_reducible assumption) | assumption)
     have q35 : x5_1 < (4 : Int) := of_decide_eq_true (by first | (with_reducible assumption) | assumption)
     replace p35 := eq_true p35
     replace q35 := eq_true q35
     have hx36_0 : wr.cell? ⟨gb321, (x5_1).toNat, none⟩ = some (.int .i8 (rd [a1_0, a1_1, a1_2, a1_3] x5_1)) := (zh BK321.out _).trans (by rcases (show (x5_1 : Int) = 0 ∨ (x5_1 : Int) = 1 ∨ (x5_1 : Int) = 2 ∨ (x5_1 : Int) = 3 by have hp_ : 0 ≤ (x5_1 : Int) := of_decide_eq_true (by first | (with_reducible assumption) | assumption); have hq_ : x5_1 < (4 : Int) := of_decide_eq_true (by first | (with_reducible assumption) | assumption); omega) with h_ | h_ | h_ | h_ <;> rw [h_] <;> rfl)
     go_wp2
     go_roundg k1
     case measure => have := HK1.out; omega
     case rel => exact ⟨(wrap64 (x5_1 + 1)), (by first | rfl | (simp; done) | (simp [*]; done)), H', ⟨by have := HK1.out; omega⟩, ⟨uK BK321⟩, ⟨sB⟩⟩
    rw [if_neg c5] at H
    exact absurd H (by simp)
   rw [if_neg c4] at H
   have c4b0 : decide (x5_1 < 4) = false := decide_eq_false c4
   clear c4
   replace H := Option.bind_eq_some_iff.mp H
   obtain ⟨t328, A370, H⟩ := H
   replace H : (some t328) = some r := H
   have A37 := za.mk A370
   clear A370
   obtain rfl := Option.some.inj H
   go_wp2_with (first | ((with_reducible refine zo (f := 49) rfl ?_); refine gz (some 32) Try.func49 #[.int .i64 a0] rfl rfl ?_; (with_reducible refine (spec_l04Letters.calls a0 t328 _ A37.out).mono ?_); rintro e w' ⟨rfl, ⟨nd, rfl⟩⟩; refine ⟨_, rfl, ?_⟩))
   go_ret
   exact ⟨by first | rfl | (simp [zk, zj] <;> rfl) | (simp [*, zk, zj] <;> rfl), sB⟩

end Go.Proofs.Ytmfbcklaomigaaa.N
