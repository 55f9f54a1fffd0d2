-- Written by wip/tools/myprint.py, a program of this session, by way of the kit's print.
import Derived.Test.YtmfbcklaomigaaaNx0
import Derived.Test.YtmfbcklaomigaaaNx2
import Derived.Test.YtmfbcklaomigaaaNx3
import Derived.Test.YtmfbcklaomigaaaNx4
import Derived.Test.YtmfbcklaomigaaaLPrN
namespace Go.Proofs.Ytmfbcklaomigaaa.N
open Go.RowKit Go.Proofs.YtmfbcklaomigaaaW.PrintWords Go.Proofs.YtmfbcklaomigaaaW.PrintLast Go.Proofs.YtmfbcklaomigaaaW.PrintMore
attribute [local go_sem] zqa zpa zwa zxa zla zka zra zta   -- for this text's walks alone
set_option linter.unusedVariables false
set_option linter.unusedSimpArgs false

/-! ### spec_MakeFixed: function 9 -/
mutual
def spec_MakeFixed.j0 : Nat → Int → Int → Int → Bool → Option (Int × Int × (List (S43)) × Int)
 | 0, _, _, _, _ => none
 | k + 1, x0, x1, x2, x24 => if x24 = true then (some (0, 0, ([] : List (S43)), 2)) else (if (Int.tmod x2 3) = 0 then (spec_MakeFixed.l0 k x0 x1 x2 0 (IntKind.i8.wrap (x0)) (IntKind.i8.wrap (x1)) ([] : List (S43))) else (some (0, 0, ([] : List (S43)), 4)))
def spec_MakeFixed.l0 : Nat → Int → Int → Int → Int → Int → Int → List (S43) → Option (Int × Int × (List (S43)) × Int)
 | 0, _, _, _, _, _, _, _ => none
 | k + 1, x0, x1, x2, x9, x144000, x144001, x144002 => (spec_l03Power.f k (wrap64 (x0 - 1))).bind fun t144 => (if x9 < t144 then (spec_MakeFixed.j2 k x0 x1 x2 x9 (decide ((x144002.length : Int) < x2)) x144000 x144001 x144002) else (spec_MakeFixed.j2 k x0 x1 x2 x9 false x144000 x144001 x144002))
def spec_MakeFixed.j2 : Nat → Int → Int → Int → Int → Bool → Int → Int → List (S43) → Option (Int × Int × (List (S43)) × Int)
 | 0, _, _, _, _, _, _, _, _ => none
 | k + 1, x0, x1, x2, x9, x46, x144000, x144001, x144002 => if x46 = true then ((spec_l04At.f k x0 x9).bind fun bt145 => (if x1 = 2 then ((spec_l04Turns.f k x0 bt145.1 bt145.2.1 bt145.2.2.1 bt145.2.2.2).bind fun t150 => (if t150 = true then (spec_MakeFixed.j3 k x0 x1 x2 x9 (x9 == 0) x144000 x144001 x144002 bt145.1 bt145.2.1 bt145.2.2.1 bt145.2.2.2) else (spec_MakeFixed.j3 k x0 x1 x2 x9 true x144000 x144001 x144002 bt145.1 bt145.2.1 bt145.2.2.1 bt145.2.2.2))) else (spec_MakeFixed.j3 k x0 x1 x2 x9 (x9 == 0) x144000 x144001 x144002 bt145.1 bt145.2.1 bt145.2.2.1 bt145.2.2.2))) else (if (x144002.length : Int) < x2 then (some (0, 0, ([] : List (S43)), 6)) else (some (x144000, x144001, x144002, 0)))
def spec_MakeFixed.j3 : Nat → Int → Int → Int → Int → Bool → Int → Int → List (S43) → Int → Int → Int → Int → Option (Int × Int × (List (S43)) × Int)
 | 0, _, _, _, _, _, _, _, _, _, _, _, _ => none
 | k + 1, x0, x1, x2, x9, x63, x144000, x144001, x144002, x150000, x150001, x150002, x150003 => if x63 = true then (spec_MakeFixed.l0 k x0 x1 x2 (wrap64 (x9 + 1)) x144000 x144001 x144002) else (spec_MakeFixed.l1 k x0 x1 x2 x9 0 x144000 x144001 x144002 x150000 x150001 x150002 x150003)
def spec_MakeFixed.l1 : Nat → Int → Int → Int → Int → Int → Int → Int → List (S43) → Int → Int → Int → Int → Option (Int × Int × (List (S43)) × Int)
 | 0, _, _, _, _, _, _, _, _, _, _, _, _ => none
 | k + 1, x0, x1, x2, x9, x11, x144000, x144001, x144002, x150000, x150001, x150002, x150003 => if x11 < 3 then (if x144002.length < 35184372088832 then ((spec_l04NextWord.f k x0 x150000 x150001 x150002 x150003).bind fun bt154 => (spec_MakeFixed.l1 k x0 x1 x2 x9 (wrap64 (x11 + 1)) x144000 x144001 (x144002 ++ [(⟨x150000, x150001, x150002, x150003⟩ : S43)]) bt154.1 bt154.2.1 bt154.2.2.1 bt154.2.2.2)) else (none)) else (spec_MakeFixed.l0 k x0 x1 x2 (wrap64 (x9 + 1)) x144000 x144001 x144002)
end
def spec_MakeFixed.f (k : Nat) (a0 : Int) (a1 : Int) (a2 : Int) : Option (Int × Int × (List (S43)) × Int) := (spec_l04Letters.f a0).bind fun t140 => (if t140 = true then ((spec_l04Kind.f a1).bind fun t141 => (if t141 = true then ((spec_l00In.f a2 1 80).bind fun t142 => (spec_MakeFixed.j0 k a0 a1 a2 (!t142))) else (spec_MakeFixed.j0 k a0 a1 a2 true))) else (spec_MakeFixed.j0 k a0 a1 a2 true))
set_option maxHeartbeats 8000000 in
set_option maxRecDepth 100000 in
theorem spec_MakeFixed.calls (k : Nat) (a0 : Int) (a1 : Int) (a2 : Int) (r1 : Int) (r2 : Int) (r3 : List (S43)) (r4 : Int) (w : World) (h : spec_MakeFixed.f k a0 a1 a2 = some (r1, r2, r3, r4)) :
  Calls Try.prog 9 #[.int .i64 a0, .int .i64 a1, .int .i64 a2] w fun e w' => ∃ v2_ : Value, e = .returned (.tuple #[.agg #[.int .i8 r1, .int .i8 r2, v2_], .int .i64 r4]) ∧ Kd.R k43 43 w' w.heap.size (fun _ => True) v2_ r3 ∧ Below w.heap.size w w' := by
 have hu28 := Try.underlying28
 have hu43 := Try.underlying43
 have HB := za.mk (Below.refl w.heap.size w)
 have H : ((spec_l04Letters.f a0).bind fun t140 => (if t140 = true then ((spec_l04Kind.f a1).bind fun t141 => (if t141 = true then ((spec_l00In.f a2 1 80).bind fun t142 => (spec_MakeFixed.j0 k a0 a1 a2 (!t142))) else (spec_MakeFixed.j0 k a0 a1 a2 true))) else (spec_MakeFixed.j0 k a0 a1 a2 true))) = some (r1, r2, r3, r4) := h
 clear h
 have HC4 := za.mk H
 clear H
 go_enter Try.func9, Try.ntmps9
 go_upto_region 1 with (first | ((with_reducible refine zn (N := 6) rfl ?_); (try (refine zjc (by rfl) ?_; dsimp only)); refine bx (N := 6) #[.int .i8 0, .int .i8 0, .slice none 0 0] 28 rfl ?_; intro gb139 hg w5 hbox hb; have BK139 := za.mk hbox; have GW139 := gB hg; have GE139 := GW139; replace HB := za.mk (ze sB hb); clear hb hbox hg))
 (try simp only [Act.put, List.setIfInBounds_toArray, List.set_cons_zero, List.set_cons_succ])
 go_cut [24] (fun v24 wc => ∃ (kq : Nat) (x24_3 : Bool), v24 = .bool x24_3 ∧ za (spec_MakeFixed.j0 kq a0 a1 a2 x24_3 = some (r1, r2, r3, r4)) ∧ za (kq ≤ k) ∧ za (wc.heap[gb139]? = some (.cells #[.int .i8 0, .int .i8 0, (.slice none 0 0)] 28 (0, 0))) ∧ za (Below w.heap.size w wc))
 case first =>
  have H := HC4.out
  clear HC4
  replace H := Option.bind_eq_some_iff.mp H
  obtain ⟨t140, A60, H⟩ := H
  replace H : (if t140 = true then ((spec_l04Kind.f a1).bind fun t141 => (if t141 = true then ((spec_l00In.f a2 1 80).bind fun t142 => (spec_MakeFixed.j0 k a0 a1 a2 (!t142))) else (spec_MakeFixed.j0 k a0 a1 a2 true))) else (spec_MakeFixed.j0 k a0 a1 a2 true)) = some (r1, r2, r3, r4) := H
  have A6 := za.mk A60
  clear A60
  by_cases c7 : t140 = true
  ·subst c7
   have H1 : ((spec_l04Kind.f a1).bind fun t141 => (if t141 = true then ((spec_l00In.f a2 1 80).bind fun t142 => (spec_MakeFixed.j0 k a0 a1 a2 (!t142))) else (spec_MakeFixed.j0 k a0 a1 a2 true))) = some (r1, r2, r3, r4) := by rw [if_pos rfl] at H; exact H
   clear H
   have H := H1
   clear H1
   replace H := Option.bind_eq_some_iff.mp H
   obtain ⟨t141, A80, H⟩ := H
   replace H : (if t141 = true then ((spec_l00In.f a2 1 80).bind fun t142 => (spec_MakeFixed.j0 k a0 a1 a2 (!t142))) else (spec_MakeFixed.j0 k a0 a1 a2 true)) = some (r1, r2, r3, r4) := H
   have A8 := za.mk A80
   clear A80
   by_cases c9 : t141 = true
   ·subst c9
    have H1 : ((spec_l00In.f a2 1 80).bind fun t142 => (spec_MakeFixed.j0 k a0 a1 a2 (!t142))) = some (r1, r2, r3, r4) := by rw [if_pos rfl] at H; exact H
    clear H
    have H := H1
    clear H1
    replace H := Option.bind_eq_some_iff.mp H
    obtain ⟨t142, A100, H⟩ := H
    replace H : (spec_MakeFixed.j0 k a0 a1 a2 (!t142)) = some (r1, r2, r3, r4) := H
    have A10 := za.mk A100
    clear A100
    have H' := za.mk H
    clear H
    go_wp2_with (first | ((with_reducible refine zo (f := 49) rfl ?_); refine gz (some 13) Try.func49 #[.int .i64 a0] rfl rfl ?_; (with_reducible refine (spec_l04Letters.calls a0 true _ A6.out).mono ?_); rintro e w' ⟨rfl, ⟨nd, rfl⟩⟩; refine ⟨_, rfl, ?_⟩) | (go_at_call 50; (with_reducible refine (spec_l04Kind.calls a1 true _ A8.out).mono ?_); rintro e w' ⟨rfl, ⟨nd, rfl⟩⟩) | (go_at_call 51; (with_reducible refine (spec_l00In.calls a2 1 80 t142 _ A10.out).mono ?_); rintro e w' ⟨rfl, ⟨nd, rfl⟩⟩))
    go_meet
    case rel => exact ⟨_, (!t142), (by first | rfl | (simp; done) | (simp [*]; done)), H', ⟨by first | omega | exact Nat.le_refl _⟩, ⟨uK BK139⟩, ⟨sB⟩⟩
   replace c9 := Bool.eq_false_iff.mpr c9
   subst c9
   have H1 : (spec_MakeFixed.j0 k a0 a1 a2 true) = some (r1, r2, r3, r4) := by rw [if_neg (show ¬ (false = true) by decide)] at H; exact H
   clear H
   have H := H1
   clear H1
   have H' := za.mk H
   clear H
   go_wp2_with (first | ((with_reducible refine zo (f := 49) rfl ?_); refine gz (some 13) Try.func49 #[.int .i64 a0] rfl rfl ?_; (with_reducible refine (spec_l04Letters.calls a0 true _ A6.out).mono ?_); rintro e w' ⟨rfl, ⟨nd, rfl⟩⟩; refine ⟨_, rfl, ?_⟩) | (go_at_call 50; (with_reducible refine (spec_l04Kind.calls a1 false _ A8.out).mono ?_); rintro e w' ⟨rfl, ⟨nd, rfl⟩⟩))
   go_meet
   case rel => exact ⟨_, (true), (by first | rfl | (simp; done) | (simp [*]; done)), H', ⟨by first | omega | exact Nat.le_refl _⟩, ⟨uK BK139⟩, ⟨sB⟩⟩
  replace c7 := Bool.eq_false_iff.mpr c7
  subst c7
  have H1 : (spec_MakeFixed.j0 k a0 a1 a2 true) = some (r1, r2, r3, r4) := by rw [if_neg (show ¬ (false = true) by decide)] at H; exact H
  clear H
  have H := H1
  clear H1
  have H' := za.mk H
  clear H
  go_wp2_with (first | ((with_reducible refine zo (f := 49) rfl ?_); refine gz (some 13) Try.func49 #[.int .i64 a0] rfl rfl ?_; (with_reducible refine (spec_l04Letters.calls a0 false _ A6.out).mono ?_); rintro e w' ⟨rfl, ⟨nd, rfl⟩⟩; refine ⟨_, rfl, ?_⟩))
  go_meet
  case rel => exact ⟨_, (true), (by first | rfl | (simp; done) | (simp [*]; done)), H', ⟨by first | omega | exact Nat.le_refl _⟩, ⟨uK BK139⟩, ⟨sB⟩⟩
 case rest =>
  clear HC4
  try clear p2
  try clear c4
  try clear c7
  try clear c9
  obtain ⟨kq, x24_3, rfl, HA, HJ3, BK139, HB⟩ := hcut
  cases kq with
  | zero => exact absurd HA.out (by simp [spec_MakeFixed.j0])
  | succ kj3 =>
   have H := HA.out
   clear HA
   simp only [spec_MakeFixed.j0] at H
   by_cases c11 : x24_3 = true
   ·subst c11
    have H1 : (some (0, 0, ([] : List (S43)), 2)) = some (r1, r2, r3, r4) := by rw [if_pos rfl] at H; exact H
    clear H
    have H := H1
    clear H1
    simp only [Option.some.injEq, Prod.mk.injEq] at H
    obtain ⟨rfl, rfl, rfl, rfl⟩ := H
    obtain ⟨hcz12_0, hcz12_1, hcz12_2⟩ := xc3 BK139
    obtain ⟨hfz12_0, hfz12_1, hfz12_2⟩ := xf3 BK139
    go_wp2
    refine bodyPost_ret (zoa rfl _ _ gb139 28 #[.int .i8 0, .int .i8 0, .slice none 0 0] (0, 0) _ rfl (by (with_reducible repeat (first | refine zc ?_ _ | refine zd ?_ | refine zb ?_ _)); refine zl (cs := #[.int .i8 0, .int .i8 0, .slice none 0 0]) ?_ 2 _ rfl; (with_reducible repeat (first | refine zc ?_ _ | refine zd ?_ | refine zb ?_ _)); refine zl (cs := #[.int .i8 0, .int .i8 0, .slice none 0 0]) ?_ 1 _ rfl; (with_reducible repeat (first | refine zc ?_ _ | refine zd ?_ | refine zb ?_ _)); refine zl (cs := #[.int .i8 0, .int .i8 0, .slice none 0 0]) ?_ 0 _ rfl; (with_reducible repeat (first | refine zc ?_ _ | refine zd ?_ | refine zb ?_ _)); exact BK139.out) Try.underlying28 rfl (by kernel_rfl)) rfl ?_
    exact ⟨_, by first | rfl | (simp [zk, zj] <;> rfl) | (simp [*, zk, zj] <;> rfl), by first | exact Kd.R_nil _ _ _ _ _ | exact Kd.N_nil _ _ _ _ _ | exact Kd.V_nil _ _ _ _ _ | exact Kd.Q_nil _ _ _ _ _ | exact Kd.S_nil _ _ _ _ _, sB⟩
   replace c11 := Bool.eq_false_iff.mpr c11
   subst c11
   have H1 : (if (Int.tmod a2 3) = 0 then (spec_MakeFixed.l0 kj3 a0 a1 a2 0 (IntKind.i8.wrap (a0)) (IntKind.i8.wrap (a1)) ([] : List (S43))) else (some (0, 0, ([] : List (S43)), 4))) = some (r1, r2, r3, r4) := by rw [if_neg (show ¬ (false = true) by decide)] at H; exact H
   clear H
   have H := H1
   clear H1
   by_cases c13 : (Int.tmod a2 3) = 0
   ·rw [if_pos c13] at H
    have c13b0 : ((Int.tmod a2 3) == 0) = true := beq_iff_eq.mpr c13
    have c13b1 : ((Int.tmod a2 3) != 0) = false := bne_eq_false_iff_eq.mpr c13
    clear c13
    have H' := za.mk H
    clear H
    go_wp2_with (first | ((with_reducible refine zn (N := 8) rfl ?_); (try (refine zjc (by rfl) ?_; dsimp only)); refine bx (N := 8) #[.int .i8 0, .int .i8 0, .slice none 0 0] 28 rfl ?_; intro gb143 hg w14 hbox hb; have BK143 := za.mk hbox; have GW143 := gB hg; have GE143 := GW143; have NB139_143 := nK hg BK139; have NB143_139 := za.mk NB139_143.out.symm; replace BK139 := dK BK139 hb; replace HB := za.mk (ze sB hb); clear hb hbox hg; have hnb15 := NB143_139.out; have hnc15 := NB139_143.out; obtain ⟨hcz16_0, hcz16_1, hcz16_2⟩ := xc3 BK143; obtain ⟨hfz16_0, hfz16_1, hfz16_2⟩ := xf3 BK143))
    go_loopg [9] kj3 (fun kq v9 w' => ∃ (x9_2 : Int) (x144002_2 : List (S43)) (u144002 : Value), v9 = .int .i64 x9_2 ∧ za (spec_MakeFixed.l0 kq a0 a1 a2 x9_2 (IntKind.i8.wrap (a0)) (IntKind.i8.wrap (a1)) x144002_2 = some (r1, r2, r3, r4)) ∧ za (kq ≤ kj3) ∧ za (Kd.R k43 43 w' w.heap.size (fun _ => True) u144002 x144002_2) ∧ za (w'.heap[gb139]? = some (.cells #[.int .i8 0, .int .i8 0, (.slice none 0 0)] 28 (0, 0))) ∧ za (w'.heap[gb143]? = some (.cells #[.int .i8 (IntKind.i8.wrap (a0)), .int .i8 (IntKind.i8.wrap (a1)), u144002] 28 (0, 0))) ∧ za (Below w.heap.size w w'))
    case atStart => exact ⟨(0), (([] : List (S43))), (.slice none 0 0), (by first | rfl | (simp; done) | (simp [*]; done)), H', ⟨Nat.le_refl _⟩, ⟨by first | exact Kd.R_nil _ _ _ _ _ | exact Kd.N_nil _ _ _ _ _ | exact Kd.V_nil _ _ _ _ _ | exact Kd.Q_nil _ _ _ _ _ | exact Kd.S_nil _ _ _ _ _⟩, ⟨by (with_reducible repeat (first | refine zc ?_ _ | refine zd ?_ | refine zb ?_ _)); refine zm ?_ NB139_143.out _; (with_reducible repeat (first | refine zc ?_ _ | refine zd ?_ | refine zb ?_ _)); refine zm ?_ NB139_143.out _; (with_reducible repeat (first | refine zc ?_ _ | refine zd ?_ | refine zb ?_ _)); refine zm ?_ NB139_143.out _; (with_reducible repeat (first | refine zc ?_ _ | refine zd ?_ | refine zb ?_ _)); exact BK139.out⟩, ⟨by (with_reducible repeat (first | refine zc ?_ _ | refine zd ?_ | refine zb ?_ _)); refine zl (cs := #[.int .i8 (IntKind.i8.wrap (a0)), .int .i8 (IntKind.i8.wrap (a1)), .slice none 0 0]) ?_ 2 _ rfl; (with_reducible repeat (first | refine zc ?_ _ | refine zd ?_ | refine zb ?_ _)); refine zl (cs := #[.int .i8 (IntKind.i8.wrap (a0)), .int .i8 0, .slice none 0 0]) ?_ 1 _ rfl; (with_reducible repeat (first | refine zc ?_ _ | refine zd ?_ | refine zb ?_ _)); refine zl (cs := #[.int .i8 0, .int .i8 0, .slice none 0 0]) ?_ 0 _ rfl; (with_reducible repeat (first | refine zc ?_ _ | refine zd ?_ | refine zb ?_ _)); exact BK143.out⟩, ⟨sB⟩⟩
    case round =>
     clear H'
     try clear c1
     try clear p2
     try clear c4
     try clear c7
     try clear c9
     try clear c11
     try clear c13
     try clear c13b0
     try clear c13b1
     try clear c15
     try clear hcz12_0 hcz12_1 hcz12_2
     try clear hcz16_0 hcz16_1 hcz16_2
     try clear hfz12_0 hfz12_1 hfz12_2
     try clear hfz16_0 hfz16_1 hfz16_2
     try clear p2
     obtain ⟨x9_2, x144002_2, u144002, rfl, HA, HK2, HO_144002, BK139, BK143, HB⟩ := hrel
     cases gk with
     | zero => exact absurd HA.out (by simp [spec_MakeFixed.l0])
     | succ k2 =>
      have H := HA.out
      clear HA
      simp only [spec_MakeFixed.l0] at H
      have HC17 := za.mk H
      clear H
      go_upto_region 7 with (fail)
      go_cut [46] (fun v46 wc => ∃ (kq : Nat) (x46_16 : Bool), v46 = .bool x46_16 ∧ za (spec_MakeFixed.j2 kq a0 a1 a2 x9_2 x46_16 (IntKind.i8.wrap (a0)) (IntKind.i8.wrap (a1)) x144002_2 = some (r1, r2, r3, r4)) ∧ za (kq ≤ k2) ∧ za (Kd.R k43 43 wc w.heap.size (fun _ => True) u144002 x144002_2) ∧ za (wc.heap[gb139]? = some (.cells #[.int .i8 0, .int .i8 0, (.slice none 0 0)] 28 (0, 0))) ∧ za (wc.heap[gb143]? = some (.cells #[.int .i8 (IntKind.i8.wrap (a0)), .int .i8 (IntKind.i8.wrap (a1)), u144002] 28 (0, 0))) ∧ za (Below w.heap.size w wc))
      case first =>
       have H := HC17.out
       clear HC17
       replace H := Option.bind_eq_some_iff.mp H
       obtain ⟨t144, A180, H⟩ := H
       replace H : (if x9_2 < t144 then (spec_MakeFixed.j2 k2 a0 a1 a2 x9_2 (decide ((x144002_2.length : Int) < a2)) (IntKind.i8.wrap (a0)) (IntKind.i8.wrap (a1)) x144002_2) else (spec_MakeFixed.j2 k2 a0 a1 a2 x9_2 false (IntKind.i8.wrap (a0)) (IntKind.i8.wrap (a1)) x144002_2)) = some (r1, r2, r3, r4) := H
       have A18 := za.mk A180
       clear A180
       by_cases c19 : x9_2 < t144
       ·rw [if_pos c19] at H
        have c19b0 : decide (x9_2 < t144) = true := decide_eq_true c19
        clear c19
        (first | rw [c19b0] | (simp only [zda, zfa]; rw [c19b0]) | skip)
        have H' := za.mk H
        clear H
        go_wp2_with (first | ((with_reducible refine zo (f := 52) rfl ?_); refine gz (some 38) Try.func52 #[.int .i64 (wrap64 (a0 - 1))] rfl rfl ?_; (with_reducible refine (spec_l03Power.calls k2 (wrap64 (a0 - 1)) t144 _ A18.out).mono ?_); rintro e w' ⟨rfl, ⟨nd, rfl⟩⟩; refine ⟨_, rfl, ?_⟩; have hnb20 := NB143_139.out; have hnc20 := NB139_143.out; obtain ⟨hcz21_0, hcz21_1, hcz21_2⟩ := xc3 BK143; obtain ⟨hfz21_0, hfz21_1, hfz21_2⟩ := xf3 BK143; obtain ⟨Ao22, co22, eo22⟩ := Kd.R_slice HO_144002.out; subst eo22))
        go_meet
        case rel => exact ⟨_, (decide ((x144002_2.length : Int) < a2)), (by first | rfl | (simp; done) | (simp [*]; done)), H', ⟨by have := HJ3.out; have := HK2.out; first | omega | exact Nat.le_refl _⟩, ⟨uR HO_144002⟩, ⟨uK BK139⟩, ⟨uK BK143⟩, ⟨sB⟩⟩
       rw [if_neg c19] at H
       have c19b0 : decide (x9_2 < t144) = false := decide_eq_false c19
       clear c19
       (first | rw [c19b0] | (simp only [zda, zfa]; rw [c19b0]) | skip)
       have H' := za.mk H
       clear H
       go_wp2_with (first | ((with_reducible refine zo (f := 52) rfl ?_); refine gz (some 38) Try.func52 #[.int .i64 (wrap64 (a0 - 1))] rfl rfl ?_; (with_reducible refine (spec_l03Power.calls k2 (wrap64 (a0 - 1)) t144 _ A18.out).mono ?_); rintro e w' ⟨rfl, ⟨nd, rfl⟩⟩; refine ⟨_, rfl, ?_⟩))
       go_meet
       case rel => exact ⟨_, (false), (by first | rfl | (simp; done) | (simp [*]; done)), H', ⟨by have := HJ3.out; have := HK2.out; first | omega | exact Nat.le_refl _⟩, ⟨uR HO_144002⟩, ⟨uK BK139⟩, ⟨uK BK143⟩, ⟨sB⟩⟩
      case rest =>
       clear HC17
       try clear c1
       try clear c2
       try clear p2
       try clear c4
       try clear c5
       try clear p6
       try clear c7
       try clear c9
       try clear c11
       try clear c13
       try clear c13b0
       try clear c13b1
       try clear c15
       try clear c19
       try clear c19b0
       try clear c20
       try clear hcz12_0 hcz12_1 hcz12_2
       try clear hcz16_0 hcz16_1 hcz16_2
       try clear hcz21_0 hcz21_1 hcz21_2
       try clear hfz12_0 hfz12_1 hfz12_2
       try clear hfz16_0 hfz16_1 hfz16_2
       try clear hfz21_0 hfz21_1 hfz21_2
       try clear p2
       obtain ⟨kq, x46_16, rfl, HA, HJ16, HO_144002, BK139, BK143, HB⟩ := hcut
       cases kq with
       | zero => exact absurd HA.out (by simp [spec_MakeFixed.j2])
       | succ kj16 =>
        have H := HA.out
        clear HA
        simp only [spec_MakeFixed.j2] at H
        by_cases c23 : x46_16 = true
        ·subst c23
         have H1 : ((spec_l04At.f kj16 a0 x9_2).bind fun bt145 => (if a1 = 2 then ((spec_l04Turns.f kj16 a0 bt145.1 bt145.2.1 bt145.2.2.1 bt145.2.2.2).bind fun t150 => (if t150 = true then (spec_MakeFixed.j3 kj16 a0 a1 a2 x9_2 (x9_2 == 0) (IntKind.i8.wrap (a0)) (IntKind.i8.wrap (a1)) x144002_2 bt145.1 bt145.2.1 bt145.2.2.1 bt145.2.2.2) else (spec_MakeFixed.j3 kj16 a0 a1 a2 x9_2 true (IntKind.i8.wrap (a0)) (IntKind.i8.wrap (a1)) x144002_2 bt145.1 bt145.2.1 bt145.2.2.1 bt145.2.2.2))) else (spec_MakeFixed.j3 kj16 a0 a1 a2 x9_2 (x9_2 == 0) (IntKind.i8.wrap (a0)) (IntKind.i8.wrap (a1)) x144002_2 bt145.1 bt145.2.1 bt145.2.2.1 bt145.2.2.2))) = some (r1, r2, r3, r4) := by rw [if_pos rfl] at H; exact H
         clear H
         have H := H1
         clear H1
         replace H := Option.bind_eq_some_iff.mp H
         obtain ⟨⟨t145, t146, t147, t148⟩, A240, H⟩ := H
         replace H : (if a1 = 2 then ((spec_l04Turns.f kj16 a0 t145 t146 t147 t148).bind fun t150 => (if t150 = true then (spec_MakeFixed.j3 kj16 a0 a1 a2 x9_2 (x9_2 == 0) (IntKind.i8.wrap (a0)) (IntKind.i8.wrap (a1)) x144002_2 t145 t146 t147 t148) else (spec_MakeFixed.j3 kj16 a0 a1 a2 x9_2 true (IntKind.i8.wrap (a0)) (IntKind.i8.wrap (a1)) x144002_2 t145 t146 t147 t148))) else (spec_MakeFixed.j3 kj16 a0 a1 a2 x9_2 (x9_2 == 0) (IntKind.i8.wrap (a0)) (IntKind.i8.wrap (a1)) x144002_2 t145 t146 t147 t148)) = some (r1, r2, r3, r4) := H
         have A24 := za.mk A240
         clear A240
         have HC25 := za.mk H
         clear H
         go_upto_region 10 with (first | ((with_reducible refine zo (f := 53) rfl ?_); refine gz (some 51) Try.func53 #[.int .i64 a0, .int .i64 x9_2] rfl rfl ?_; (with_reducible refine (spec_l04At.calls kj16 a0 x9_2 t145 t146 t147 t148 _ A24.out).mono ?_); rintro e w26 ⟨rfl, hb⟩; refine ⟨_, rfl, ?_⟩; replace HO_144002 := dR HO_144002 hb; replace BK139 := dK BK139 hb; replace BK143 := dK BK143 hb; replace HB := za.mk (ze sB hb); try clear hb) | ((with_reducible refine zn (N := 10) rfl ?_); (try (refine zjc (by rfl) ?_; dsimp only)); refine bx (N := 10) #[.int .i8 0, .int .i8 0, .int .i8 0, .int .i8 0] 43 rfl ?_; intro gb149 hg w27 hbox hb; have BK149 := za.mk hbox; have GW149 := gB hg; have GE149 := GW149; have NB139_149 := nK hg BK139; have NB149_139 := za.mk NB139_149.out.symm; have NB143_149 := nK hg BK143; have NB149_143 := za.mk NB143_149.out.symm; replace HO_144002 := za.mk (Kd.R_below (Kd.R_elderB (uR HO_144002) gb149 (Nat.le_of_eq hg.symm)) hb); replace BK139 := dK BK139 hb; replace BK143 := dK BK143 hb; replace HB := za.mk (ze sB hb); clear hb hbox hg; have hnb28 := NB149_139.out; have hnc28 := NB139_149.out; have hnb29 := NB149_143.out; have hnc29 := NB143_149.out; obtain ⟨hcz30_0, hcz30_1, hcz30_2, hcz30_3⟩ := xc4 BK149; obtain ⟨hfz30_0, hfz30_1, hfz30_2, hfz30_3⟩ := xf4 BK149))
         (try simp only [Act.put, List.setIfInBounds_toArray, List.set_cons_zero, List.set_cons_succ])
         go_cut [63] (fun v63 wc => ∃ (kq : Nat) (x63_24 : Bool), v63 = .bool x63_24 ∧ za (spec_MakeFixed.j3 kq a0 a1 a2 x9_2 x63_24 (IntKind.i8.wrap (a0)) (IntKind.i8.wrap (a1)) x144002_2 t145 t146 t147 t148 = some (r1, r2, r3, r4)) ∧ za (kq ≤ kj16) ∧ za (Kd.R k43 43 wc w.heap.size (fun k_ => k_ ≠ gb149) u144002 x144002_2) ∧ za (wc.heap[gb139]? = some (.cells #[.int .i8 0, .int .i8 0, (.slice none 0 0)] 28 (0, 0))) ∧ za (wc.heap[gb143]? = some (.cells #[.int .i8 (IntKind.i8.wrap (a0)), .int .i8 (IntKind.i8.wrap (a1)), u144002] 28 (0, 0))) ∧ za (wc.heap[gb149]? = some (.cells #[.int .i8 t145, .int .i8 t146, .int .i8 t147, .int .i8 t148] 43 (0, 0))) ∧ za (Below w.heap.size w wc))
         case first =>
          have H := HC25.out
          clear HC25
          by_cases c31 : a1 = 2
          ·rw [if_pos c31] at H
           have c31b0 : (a1 == 2) = true := beq_iff_eq.mpr c31
           have c31b1 : (a1 != 2) = false := bne_eq_false_iff_eq.mpr c31
           clear c31
           (first | rw [c31b0] | (simp only [zda, zfa]; rw [c31b0]) | skip)
           replace H := Option.bind_eq_some_iff.mp H
           obtain ⟨t150, A320, H⟩ := H
           replace H : (if t150 = true then (spec_MakeFixed.j3 kj16 a0 a1 a2 x9_2 (x9_2 == 0) (IntKind.i8.wrap (a0)) (IntKind.i8.wrap (a1)) x144002_2 t145 t146 t147 t148) else (spec_MakeFixed.j3 kj16 a0 a1 a2 x9_2 true (IntKind.i8.wrap (a0)) (IntKind.i8.wrap (a1)) x144002_2 t145 t146 t147 t148)) = some (r1, r2, r3, r4) := H
           have A32 := za.mk A320
           clear A320
           by_cases c33 : t150 = true
           ·subst c33
            have H1 : (spec_MakeFixed.j3 kj16 a0 a1 a2 x9_2 (x9_2 == 0) (IntKind.i8.wrap (a0)) (IntKind.i8.wrap (a1)) x144002_2 t145 t146 t147 t148) = some (r1, r2, r3, r4) := by rw [if_pos rfl] at H; exact H
            clear H
            have H := H1
            clear H1
            have H' := za.mk H
            clear H
            have hnb34 := NB149_139.out
            have hnc34 := NB139_149.out
            have hnb35 := NB149_143.out
            have hnc35 := NB143_149.out
            obtain ⟨hcz36_0, hcz36_1, hcz36_2, hcz36_3⟩ := xc4 BK149
            obtain ⟨hfz36_0, hfz36_1, hfz36_2, hfz36_3⟩ := xf4 BK149
            go_wp2_with (first | (go_at_call 54; (with_reducible refine (spec_l04Turns.calls kj16 a0 t145 t146 t147 t148 true _ A32.out).mono ?_); rintro e w37 ⟨rfl, hb⟩; have n0_ := za.mk (Kd.R_below (by (with_reducible repeat (first | apply Kd.R_alloc | apply Kd.R_drewN | apply Kd.R_drew)); exact (Kd.R_mono (Kd.R_far (p := ⟨gb149, 3, none⟩) (Kd.R_far (p := ⟨gb149, 2, none⟩) (Kd.R_far (p := ⟨gb149, 1, none⟩) (Kd.R_far (p := ⟨gb149, 0, none⟩) (Kd.R_mono HO_144002.out (fun k_ hk => (⟨hk, hk.2⟩ : _ ∧ k_ ≠ gb149))) (fun _ hk => hk.2) (.int .i8 t145)) (fun _ hk => hk.2) (.int .i8 t146)) (fun _ hk => hk.2) (.int .i8 t147)) (fun _ hk => hk.2) (.int .i8 t148)) (fun _ h_ => h_.1))) hb); have n1_ := za.mk (zr (g := gb139) (o := .cells #[.int .i8 0, .int .i8 0, .slice none 0 0] 28 (0, 0)) (by (with_reducible repeat (first | refine zc ?_ _ | refine zd ?_ | refine zb ?_ _)); refine zm ?_ NB139_149.out _; (with_reducible repeat (first | refine zc ?_ _ | refine zd ?_ | refine zb ?_ _)); refine zm ?_ NB139_149.out _; (with_reducible repeat (first | refine zc ?_ _ | refine zd ?_ | refine zb ?_ _)); refine zm ?_ NB139_149.out _; (with_reducible repeat (first | refine zc ?_ _ | refine zd ?_ | refine zb ?_ _)); refine zm ?_ NB139_149.out _; (with_reducible repeat (first | refine zc ?_ _ | refine zd ?_ | refine zb ?_ _)); exact BK139.out) hb); have n2_ := za.mk (zr (g := gb143) (o := .cells #[.int .i8 (IntKind.i8.wrap (a0)), .int .i8 (IntKind.i8.wrap (a1)), u144002] 28 (0, 0)) (by (with_reducible repeat (first | refine zc ?_ _ | refine zd ?_ | refine zb ?_ _)); refine zm ?_ NB143_149.out _; (with_reducible repeat (first | refine zc ?_ _ | refine zd ?_ | refine zb ?_ _)); refine zm ?_ NB143_149.out _; (with_reducible repeat (first | refine zc ?_ _ | refine zd ?_ | refine zb ?_ _)); refine zm ?_ NB143_149.out _; (with_reducible repeat (first | refine zc ?_ _ | refine zd ?_ | refine zb ?_ _)); refine zm ?_ NB143_149.out _; (with_reducible repeat (first | refine zc ?_ _ | refine zd ?_ | refine zb ?_ _)); exact BK143.out) hb); have n3_ := za.mk (zr (g := gb149) (o := .cells #[.int .i8 t145, .int .i8 t146, .int .i8 t147, .int .i8 t148] 43 (0, 0)) (by (with_reducible repeat (first | refine zc ?_ _ | refine zd ?_ | refine zb ?_ _)); refine zl (cs := #[.int .i8 t145, .int .i8 t146, .int .i8 t147, .int .i8 0]) ?_ 3 _ rfl; (with_reducible repeat (first | refine zc ?_ _ | refine zd ?_ | refine zb ?_ _)); refine zl (cs := #[.int .i8 t145, .int .i8 t146, .int .i8 0, .int .i8 0]) ?_ 2 _ rfl; (with_reducible repeat (first | refine zc ?_ _ | refine zd ?_ | refine zb ?_ _)); refine zl (cs := #[.int .i8 t145, .int .i8 0, .int .i8 0, .int .i8 0]) ?_ 1 _ rfl; (with_reducible repeat (first | refine zc ?_ _ | refine zd ?_ | refine zb ?_ _)); refine zl (cs := #[.int .i8 0, .int .i8 0, .int .i8 0, .int .i8 0]) ?_ 0 _ rfl; (with_reducible repeat (first | refine zc ?_ _ | refine zd ?_ | refine zb ?_ _)); exact BK149.out) hb); have n4_ := za.mk (ze sB hb); clear HO_144002; clear BK139; clear BK143; clear BK149; clear HB; have HO_144002 := n0_; have BK139 := n1_; have BK143 := n2_; have BK149 := n3_; have HB := n4_; clear n0_ n1_ n2_ n3_ n4_; try clear hb))
            go_meet
            case rel => exact ⟨_, ((x9_2 == 0)), (by first | rfl | (simp; done) | (simp [*]; done)), H', ⟨by have := HJ3.out; have := HK2.out; have := HJ16.out; first | omega | exact Nat.le_refl _⟩, ⟨uR' (Kd.R_mono HO_144002.out (fun _ hk => hk.2))⟩, ⟨uK BK139⟩, ⟨uK BK143⟩, ⟨uK BK149⟩, ⟨sB⟩⟩
           replace c33 := Bool.eq_false_iff.mpr c33
           subst c33
           have H1 : (spec_MakeFixed.j3 kj16 a0 a1 a2 x9_2 true (IntKind.i8.wrap (a0)) (IntKind.i8.wrap (a1)) x144002_2 t145 t146 t147 t148) = some (r1, r2, r3, r4) := by rw [if_neg (show ¬ (false = true) by decide)] at H; exact H
           clear H
           have H := H1
           clear H1
           have H' := za.mk H
           clear H
           have hnb38 := NB149_139.out
           have hnc38 := NB139_149.out
           have hnb39 := NB149_143.out
           have hnc39 := NB143_149.out
           obtain ⟨hcz40_0, hcz40_1, hcz40_2, hcz40_3⟩ := xc4 BK149
           obtain ⟨hfz40_0, hfz40_1, hfz40_2, hfz40_3⟩ := xf4 BK149
           go_wp2_with (first | (go_at_call 54; (with_reducible refine (spec_l04Turns.calls kj16 a0 t145 t146 t147 t148 false _ A32.out).mono ?_); rintro e w41 ⟨rfl, hb⟩; have n0_ := za.mk (Kd.R_below (by (with_reducible repeat (first | apply Kd.R_alloc | apply Kd.R_drewN | apply Kd.R_drew)); exact (Kd.R_mono (Kd.R_far (p := ⟨gb149, 3, none⟩) (Kd.R_far (p := ⟨gb149, 2, none⟩) (Kd.R_far (p := ⟨gb149, 1, none⟩) (Kd.R_far (p := ⟨gb149, 0, none⟩) (Kd.R_mono HO_144002.out (fun k_ hk => (⟨hk, hk.2⟩ : _ ∧ k_ ≠ gb149))) (fun _ hk => hk.2) (.int .i8 t145)) (fun _ hk => hk.2) (.int .i8 t146)) (fun _ hk => hk.2) (.int .i8 t147)) (fun _ hk => hk.2) (.int .i8 t148)) (fun _ h_ => h_.1))) hb); have n1_ := za.mk (zr (g := gb139) (o := .cells #[.int .i8 0, .int .i8 0, .slice none 0 0] 28 (0, 0)) (by (with_reducible repeat (first | refine zc ?_ _ | refine zd ?_ | refine zb ?_ _)); refine zm ?_ NB139_149.out _; (with_reducible repeat (first | refine zc ?_ _ | refine zd ?_ | refine zb ?_ _)); refine zm ?_ NB139_149.out _; (with_reducible repeat (first | refine zc ?_ _ | refine zd ?_ | refine zb ?_ _)); refine zm ?_ NB139_149.out _; (with_reducible repeat (first | refine zc ?_ _ | refine zd ?_ | refine zb ?_ _)); refine zm ?_ NB139_149.out _; (with_reducible repeat (first | refine zc ?_ _ | refine zd ?_ | refine zb ?_ _)); exact BK139.out) hb); have n2_ := za.mk (zr (g := gb143) (o := .cells #[.int .i8 (IntKind.i8.wrap (a0)), .int .i8 (IntKind.i8.wrap (a1)), u144002] 28 (0, 0)) (by (with_reducible repeat (first | refine zc ?_ _ | refine zd ?_ | refine zb ?_ _)); refine zm ?_ NB143_149.out _; (with_reducible repeat (first | refine zc ?_ _ | refine zd ?_ | refine zb ?_ _)); refine zm ?_ NB143_149.out _; (with_reducible repeat (first | refine zc ?_ _ | refine zd ?_ | refine zb ?_ _)); refine zm ?_ NB143_149.out _; (with_reducible repeat (first | refine zc ?_ _ | refine zd ?_ | refine zb ?_ _)); refine zm ?_ NB143_149.out _; (with_reducible repeat (first | refine zc ?_ _ | refine zd ?_ | refine zb ?_ _)); exact BK143.out) hb); have n3_ := za.mk (zr (g := gb149) (o := .cells #[.int .i8 t145, .int .i8 t146, .int .i8 t147, .int .i8 t148] 43 (0, 0)) (by (with_reducible repeat (first | refine zc ?_ _ | refine zd ?_ | refine zb ?_ _)); refine zl (cs := #[.int .i8 t145, .int .i8 t146, .int .i8 t147, .int .i8 0]) ?_ 3 _ rfl; (with_reducible repeat (first | refine zc ?_ _ | refine zd ?_ | refine zb ?_ _)); refine zl (cs := #[.int .i8 t145, .int .i8 t146, .int .i8 0, .int .i8 0]) ?_ 2 _ rfl; (with_reducible repeat (first | refine zc ?_ _ | refine zd ?_ | refine zb ?_ _)); refine zl (cs := #[.int .i8 t145, .int .i8 0, .int .i8 0, .int .i8 0]) ?_ 1 _ rfl; (with_reducible repeat (first | refine zc ?_ _ | refine zd ?_ | refine zb ?_ _)); refine zl (cs := #[.int .i8 0, .int .i8 0, .int .i8 0, .int .i8 0]) ?_ 0 _ rfl; (with_reducible repeat (first | refine zc ?_ _ | refine zd ?_ | refine zb ?_ _)); exact BK149.out) hb); have n4_ := za.mk (ze sB hb); clear HO_144002; clear BK139; clear BK143; clear BK149; clear HB; have HO_144002 := n0_; have BK139 := n1_; have BK143 := n2_; have BK149 := n3_; have HB := n4_; clear n0_ n1_ n2_ n3_ n4_; try clear hb))
           go_meet
           case rel => exact ⟨_, (true), (by first | rfl | (simp; done) | (simp [*]; done)), H', ⟨by have := HJ3.out; have := HK2.out; have := HJ16.out; first | omega | exact Nat.le_refl _⟩, ⟨uR' (Kd.R_mono HO_144002.out (fun _ hk => hk.2))⟩, ⟨uK BK139⟩, ⟨uK BK143⟩, ⟨uK BK149⟩, ⟨sB⟩⟩
          rw [if_neg c31] at H
          have c31b0 : (a1 == 2) = false := beq_eq_false_iff_ne.mpr c31
          have c31b1 : (a1 != 2) = true := bne_iff_ne.mpr c31
          (first | rw [c31b0] | (simp only [zda, zfa]; rw [c31b0]) | skip)
          have H' := za.mk H
          clear H
          go_wp2
          go_meet
          case rel => exact ⟨_, ((x9_2 == 0)), (by first | rfl | (simp; done) | (simp [*]; done)), H', ⟨by have := HJ3.out; have := HK2.out; have := HJ16.out; first | omega | exact Nat.le_refl _⟩, ⟨by (with_reducible repeat (first | apply Kd.R_alloc | apply Kd.R_drewN | apply Kd.R_drew)); exact Kd.R_mono (Kd.R_far (p := ⟨gb149, 3, none⟩) (Kd.R_far (p := ⟨gb149, 2, none⟩) (Kd.R_far (p := ⟨gb149, 1, none⟩) (Kd.R_far (p := ⟨gb149, 0, none⟩) (Kd.R_mono HO_144002.out (fun k_ hk => (⟨hk, hk.2⟩ : _ ∧ k_ ≠ gb149))) (fun _ hk => hk.2) (.int .i8 t145)) (fun _ hk => hk.2) (.int .i8 t146)) (fun _ hk => hk.2) (.int .i8 t147)) (fun _ hk => hk.2) (.int .i8 t148)) (fun _ hk => hk.1.2)⟩, ⟨by (with_reducible repeat (first | refine zc ?_ _ | refine zd ?_ | refine zb ?_ _)); refine zm ?_ NB139_149.out _; (with_reducible repeat (first | refine zc ?_ _ | refine zd ?_ | refine zb ?_ _)); refine zm ?_ NB139_149.out _; (with_reducible repeat (first | refine zc ?_ _ | refine zd ?_ | refine zb ?_ _)); refine zm ?_ NB139_149.out _; (with_reducible repeat (first | refine zc ?_ _ | refine zd ?_ | refine zb ?_ _)); refine zm ?_ NB139_149.out _; (with_reducible repeat (first | refine zc ?_ _ | refine zd ?_ | refine zb ?_ _)); exact BK139.out⟩, ⟨by (with_reducible repeat (first | refine zc ?_ _ | refine zd ?_ | refine zb ?_ _)); refine zm ?_ NB143_149.out _; (with_reducible repeat (first | refine zc ?_ _ | refine zd ?_ | refine zb ?_ _)); refine zm ?_ NB143_149.out _; (with_reducible repeat (first | refine zc ?_ _ | refine zd ?_ | refine zb ?_ _)); refine zm ?_ NB143_149.out _; (with_reducible repeat (first | refine zc ?_ _ | refine zd ?_ | refine zb ?_ _)); refine zm ?_ NB143_149.out _; (with_reducible repeat (first | refine zc ?_ _ | refine zd ?_ | refine zb ?_ _)); exact BK143.out⟩, ⟨by (with_reducible repeat (first | refine zc ?_ _ | refine zd ?_ | refine zb ?_ _)); refine zl (cs := #[.int .i8 t145, .int .i8 t146, .int .i8 t147, .int .i8 0]) ?_ 3 _ rfl; (with_reducible repeat (first | refine zc ?_ _ | refine zd ?_ | refine zb ?_ _)); refine zl (cs := #[.int .i8 t145, .int .i8 t146, .int .i8 0, .int .i8 0]) ?_ 2 _ rfl; (with_reducible repeat (first | refine zc ?_ _ | refine zd ?_ | refine zb ?_ _)); refine zl (cs := #[.int .i8 t145, .int .i8 0, .int .i8 0, .int .i8 0]) ?_ 1 _ rfl; (with_reducible repeat (first | refine zc ?_ _ | refine zd ?_ | refine zb ?_ _)); refine zl (cs := #[.int .i8 0, .int .i8 0, .int .i8 0, .int .i8 0]) ?_ 0 _ rfl; (with_reducible repeat (first | refine zc ?_ _ | refine zd ?_ | refine zb ?_ _)); exact BK149.out⟩, ⟨sB⟩⟩
         case rest =>
          clear HC25
          try clear c1
          try clear c2
          try clear p2
          try clear c3
          try clear c4
          try clear c5
          try clear p6
          try clear c7
          try clear c9
          try clear c11
          try clear c13
          try clear c13b0
          try clear c13b1
          try clear c15
          try clear c19
          try clear c19b0
          try clear c20
          try clear c23
          try clear c28
          try clear c29
          try clear c31
          try clear c31b0
          try clear c31b1
          try clear c33
          try clear c34
          try clear c35
          try clear c38
          try clear c39
          try clear hcz12_0 hcz12_1 hcz12_2
          try clear hcz16_0 hcz16_1 hcz16_2
          try clear hcz21_0 hcz21_1 hcz21_2
          try clear hcz30_0 hcz30_1 hcz30_2 hcz30_3
          try clear hcz36_0 hcz36_1 hcz36_2 hcz36_3
          try clear hcz40_0 hcz40_1 hcz40_2 hcz40_3
          try clear hfz12_0 hfz12_1 hfz12_2
          try clear hfz16_0 hfz16_1 hfz16_2
          try clear hfz21_0 hfz21_1 hfz21_2
          try clear hfz30_0 hfz30_1 hfz30_2 hfz30_3
          try clear hfz36_0 hfz36_1 hfz36_2 hfz36_3
          try clear hfz40_0 hfz40_1 hfz40_2 hfz40_3
          try clear p2
          try clear p6
          obtain ⟨kq, x63_24, rfl, HA, HJ24, HO_144002, BK139, BK143, BK149, HB⟩ := hcut
          cases kq with
          | zero => exact absurd HA.out (by simp [spec_MakeFixed.j3])
          | succ kj24 =>
           have H := HA.out
           clear HA
           simp only [spec_MakeFixed.j3] at H
           by_cases c42 : x63_24 = true
           ·subst c42
            have H1 : (spec_MakeFixed.l0 kj24 a0 a1 a2 (wrap64 (x9_2 + 1)) (IntKind.i8.wrap (a0)) (IntKind.i8.wrap (a1)) x144002_2) = some (r1, r2, r3, r4) := by rw [if_pos rfl] at H; exact H
            clear H
            have H := H1
            clear H1
            have H' := za.mk H
            clear H
            go_wp2
            go_roundg kj24
            case measure => have := HJ3.out; have := HK2.out; have := HJ16.out; have := HJ24.out; omega
            case rel => exact ⟨(wrap64 (x9_2 + 1)), (x144002_2), (u144002), (by first | rfl | (simp; done) | (simp [*]; done)), H', ⟨by have := HJ3.out; have := HK2.out; have := HJ16.out; have := HJ24.out; omega⟩, ⟨uR' (Kd.R_mono HO_144002.out (fun _ hk => trivial))⟩, ⟨uK BK139⟩, ⟨uK BK143⟩, ⟨sB⟩⟩
           replace c42 := Bool.eq_false_iff.mpr c42
           subst c42
           have H1 : (spec_MakeFixed.l1 kj24 a0 a1 a2 x9_2 0 (IntKind.i8.wrap (a0)) (IntKind.i8.wrap (a1)) x144002_2 t145 t146 t147 t148) = some (r1, r2, r3, r4) := by rw [if_neg (show ¬ (false = true) by decide)] at H; exact H
           clear H
           have H := H1
           clear H1
           have H' := za.mk H
           clear H
           go_wp2
           go_loopg [11] kj24 (fun kq v11 w' => ∃ (x11_5 : Int) (x144002_5 : List (S43)) (x150000_5 : Int) (x150001_5 : Int) (x150002_5 : Int) (x150003_5 : Int) (u144002 : Value), v11 = .int .i64 x11_5 ∧ za (spec_MakeFixed.l1 kq a0 a1 a2 x9_2 x11_5 (IntKind.i8.wrap (a0)) (IntKind.i8.wrap (a1)) x144002_5 x150000_5 x150001_5 x150002_5 x150003_5 = some (r1, r2, r3, r4)) ∧ za (kq ≤ kj24) ∧ za (Kd.R k43 43 w' w.heap.size (fun k_ => k_ ≠ gb149) u144002 x144002_5) ∧ za (w'.heap[gb139]? = some (.cells #[.int .i8 0, .int .i8 0, (.slice none 0 0)] 28 (0, 0))) ∧ za (w'.heap[gb143]? = some (.cells #[.int .i8 (IntKind.i8.wrap (a0)), .int .i8 (IntKind.i8.wrap (a1)), u144002] 28 (0, 0))) ∧ za (w'.heap[gb149]? = some (.cells #[.int .i8 x150000_5, .int .i8 x150001_5, .int .i8 x150002_5, .int .i8 x150003_5] 43 (0, 0))) ∧ za (Below w.heap.size w w'))
           case atStart => exact ⟨(0), (x144002_2), (t145), (t146), (t147), (t148), (u144002), (by first | rfl | (simp; done) | (simp [*]; done)), H', ⟨Nat.le_refl _⟩, ⟨uR HO_144002⟩, ⟨uK BK139⟩, ⟨uK BK143⟩, ⟨uK BK149⟩, ⟨sB⟩⟩
           case round =>
            clear H'
            try clear c1
            try clear c2
            try clear p2
            try clear c3
            try clear c4
            try clear c5
            try clear p6
            try clear c7
            try clear c9
            try clear c11
            try clear c13
            try clear c13b0
            try clear c13b1
            try clear c15
            try clear c19
            try clear c19b0
            try clear c20
            try clear c23
            try clear c28
            try clear c29
            try clear c31
            try clear c31b0
            try clear c31b1
            try clear c33
            try clear c34
            try clear c35
            try clear c38
            try clear c39
            try clear c42
            try clear hcz12_0 hcz12_1 hcz12_2
            try clear hcz16_0 hcz16_1 hcz16_2
            try clear hcz21_0 hcz21_1 hcz21_2
            try clear hcz30_0 hcz30_1 hcz30_2 hcz30_3
            try clear hcz36_0 hcz36_1 hcz36_2 hcz36_3
            try clear hcz40_0 hcz40_1 hcz40_2 hcz40_3
            try clear hfz12_0 hfz12_1 hfz12_2
            try clear hfz16_0 hfz16_1 hfz16_2
            try clear hfz21_0 hfz21_1 hfz21_2
            try clear hfz30_0 hfz30_1 hfz30_2 hfz30_3
            try clear hfz36_0 hfz36_1 hfz36_2 hfz36_3
            try clear hfz40_0 hfz40_1 hfz40_2 hfz40_3
            try clear p2
            try clear p6
            obtain ⟨x11_5, x144002_5, x150000_5, x150001_5, x150002_5, x150003_5, u144002, rfl, HA, HK5, HO_144002, BK139, BK143, BK149, HB⟩ := hrel
            cases gk with
            | zero => exact absurd HA.out (by simp [spec_MakeFixed.l1])
            | succ k5 =>
             have H := HA.out
             clear HA
             simp only [spec_MakeFixed.l1] at H
             by_cases c43 : x11_5 < 3
             ·rw [if_pos c43] at H
              have c43b0 : decide (x11_5 < 3) = true := decide_eq_true c43
              clear c43
              by_cases c44 : x144002_5.length < 35184372088832
              ·rw [if_pos c44] at H
               have LMc44 := za.mk c44
               clear c44
               obtain ⟨y151, hy151⟩ : ∃ y_ : List (S43), y_ = (x144002_5 ++ [(⟨x150000_5, x150001_5, x150002_5, x150003_5⟩ : S43)]) := ⟨_, rfl⟩
               replace H : ((spec_l04NextWord.f k5 a0 x150000_5 x150001_5 x150002_5 x150003_5).bind fun bt154 => (spec_MakeFixed.l1 k5 a0 a1 a2 x9_2 (wrap64 (x11_5 + 1)) (IntKind.i8.wrap (a0)) (IntKind.i8.wrap (a1)) y151 bt154.1 bt154.2.1 bt154.2.2.1 bt154.2.2.2)) = some (r1, r2, r3, r4) := by first | (rw [hy151]; with_reducible exact H) | (have H2_ := (Option.bind_some _ _).symm.trans H; rw [hy151]; with_reducible exact H2_) | (have H2_ := (Option.bind_some _ _).symm.trans H; with_reducible exact H2_) | with_reducible exact H | (rw [hy151]; exact H) | exact H
               have Ny151 := za.mk hy151
               clear hy151
               replace H := Option.bind_eq_some_iff.mp H
               obtain ⟨⟨t154, t155, t156, t157⟩, A450, H⟩ := H
               replace H : (spec_MakeFixed.l1 k5 a0 a1 a2 x9_2 (wrap64 (x11_5 + 1)) (IntKind.i8.wrap (a0)) (IntKind.i8.wrap (a1)) y151 t154 t155 t156 t157) = some (r1, r2, r3, r4) := H
               have A45 := za.mk A450
               clear A450
               have H' := za.mk H
               clear H
               have hnb46 := NB143_139.out
               have hnc46 := NB139_143.out
               have hnb47 := NB143_149.out
               have hnc47 := NB149_143.out
               obtain ⟨hcz48_0, hcz48_1, hcz48_2⟩ := xc3 BK143
               obtain ⟨hfz48_0, hfz48_1, hfz48_2⟩ := xf3 BK143
               have hnb49 := NB149_139.out
               have hnc49 := NB139_149.out
               obtain ⟨hcz50_0, hcz50_1, hcz50_2, hcz50_3⟩ := xc4 BK149
               obtain ⟨hfz50_0, hfz50_1, hfz50_2, hfz50_3⟩ := xf4 BK149
               go_wp2_with (first | ((with_reducible refine zga (b := .append) (xs := #[.tmp 69, .tmp 71]) rfl ?_); (try (refine zjc (by rfl) ?_; dsimp only)); at_builtin; refine Kd.R_append k43 (w0 := w) w.heap.size rfl (.tmp 69) (.tmp 71) 26 43 (.agg #[(.int .i8 0), (.int .i8 0), (.int .i8 0), (.int .i8 0)]) 4 rfl Try.underlying26 info43 rfl (by decide) (by omega) u144002 x144002_5 (⟨x150000_5, x150001_5, x150002_5, x150003_5⟩ : S43) [.int .i8 x150000_5, .int .i8 x150001_5, .int .i8 x150002_5, .int .i8 x150003_5] (fun k_ => k_ ≠ gb149) (fun _ => False) rfl rfl ?aP (fun _ hk => hk.elim) ?aF ?aO ?aB ?aS ?aL ?_; (case aP => exact k43_mkM _ _ _ (⟨x150000_5, x150001_5, x150002_5, x150003_5⟩ : S43)); (case aB => exact sB); (case aF => exact (fun k_ hk => Kd.freshB (g := gb149) (o := .cells #[.int .i8 x150000_5, .int .i8 x150001_5, .int .i8 x150002_5, .int .i8 x150003_5] 43 (0, 0)) (uK BK149) k_ hk)); (case aO => exact (uR HO_144002)); (case aS => exact (zv sB)); (case aL => have := LMc44.out; omega); intro v152 w51 ho hb hg hat; rw [← Ny151.out] at ho; have HO153 := za.mk ho; replace BK139 := za.mk (zq (g := gb139) (o := .cells #[.int .i8 0, .int .i8 0, .slice none 0 0] 28 (0, 0)) (uK BK139) hg (Kd.R_ne HO_144002.out BK139.out (by decide))); replace BK143 := za.mk (zq (g := gb143) (o := .cells #[.int .i8 (IntKind.i8.wrap (a0)), .int .i8 (IntKind.i8.wrap (a1)), u144002] 28 (0, 0)) (uK BK143) hg (Kd.R_ne HO_144002.out BK143.out (by decide))); replace BK149 := za.mk (zq (g := gb149) (o := .cells #[.int .i8 x150000_5, .int .i8 x150001_5, .int .i8 x150002_5, .int .i8 x150003_5] 43 (0, 0)) (uK BK149) hg (Kd.R_away HO_144002.out (fun _ hk => hk))); replace HB := za.mk hb; clear HO_144002; clear ho hb hg hat; obtain ⟨Ao52, co52, eo52⟩ := Kd.R_slice HO153.out; subst eo52; obtain ⟨hcz53_0, hcz53_1, hcz53_2⟩ := xc3 BK143; obtain ⟨hfz53_0, hfz53_1, hfz53_2⟩ := xf3 BK143; obtain ⟨hcz54_0, hcz54_1, hcz54_2, hcz54_3⟩ := xc4 BK149; obtain ⟨hfz54_0, hfz54_1, hfz54_2, hfz54_3⟩ := xf4 BK149) | ((with_reducible refine zo (f := 55) rfl ?_); refine gz (some 76) Try.func55 #[.int .i64 a0, .agg #[.int .i8 x150000_5, .int .i8 x150001_5, .int .i8 x150002_5, .int .i8 x150003_5]] rfl rfl ?_; (with_reducible refine (spec_l04NextWord.calls k5 a0 x150000_5 x150001_5 x150002_5 x150003_5 t154 t155 t156 t157 _ A45.out).mono ?_); rintro e w55 ⟨rfl, hb⟩; refine ⟨_, rfl, ?_⟩; have n0_ := za.mk (Kd.R_below (uR' (Kd.R_mono (Kd.R_far (p := ⟨gb143, 2, none⟩) (Kd.R_types HO153.out BK143.out (by decide)) (fun _ hk => hk.2) (.slice Ao52 y151.length co52)) (fun _ h_ => h_.1))) hb); have n1_ := za.mk (zr (g := gb139) (o := .cells #[.int .i8 0, .int .i8 0, .slice none 0 0] 28 (0, 0)) (by (with_reducible repeat (first | refine zc ?_ _ | refine zd ?_ | refine zb ?_ _)); refine zm ?_ NB139_143.out _; (with_reducible repeat (first | refine zc ?_ _ | refine zd ?_ | refine zb ?_ _)); exact BK139.out) hb); have n2_ := za.mk (zr (g := gb143) (o := .cells #[.int .i8 (IntKind.i8.wrap (a0)), .int .i8 (IntKind.i8.wrap (a1)), .slice Ao52 y151.length co52] 28 (0, 0)) (by (with_reducible repeat (first | refine zc ?_ _ | refine zd ?_ | refine zb ?_ _)); refine zl (cs := #[.int .i8 (IntKind.i8.wrap (a0)), .int .i8 (IntKind.i8.wrap (a1)), u144002]) ?_ 2 _ rfl; (with_reducible repeat (first | refine zc ?_ _ | refine zd ?_ | refine zb ?_ _)); exact BK143.out) hb); have n3_ := za.mk (zr (g := gb149) (o := .cells #[.int .i8 x150000_5, .int .i8 x150001_5, .int .i8 x150002_5, .int .i8 x150003_5] 43 (0, 0)) (by (with_reducible repeat (first | refine zc ?_ _ | refine zd ?_ | refine zb ?_ _)); refine zm ?_ NB149_143.out _; (with_reducible repeat (first | refine zc ?_ _ | refine zd ?_ | refine zb ?_ _)); exact BK149.out) hb); have n4_ := za.mk (ze sB hb); clear HO153; clear BK139; clear BK143; clear BK149; clear HB; have HO153 := n0_; have BK139 := n1_; have BK143 := n2_; have BK149 := n3_; have HB := n4_; clear n0_ n1_ n2_ n3_ n4_; try clear hb; obtain ⟨hcz56_0, hcz56_1, hcz56_2, hcz56_3⟩ := xc4 BK149; obtain ⟨hfz56_0, hfz56_1, hfz56_2, hfz56_3⟩ := xf4 BK149))
               go_roundg k5
               case measure => have := HJ3.out; have := HK2.out; have := HJ16.out; have := HJ24.out; have := HK5.out; omega
               case rel => exact ⟨(wrap64 (x11_5 + 1)), (y151), (t154), (t155), (t156), (t157), (.slice Ao52 y151.length co52), (by first | rfl | (simp; done) | (simp [*]; done)), H', ⟨by have := HJ3.out; have := HK2.out; have := HJ16.out; have := HJ24.out; have := HK5.out; omega⟩, ⟨by (with_reducible repeat (first | apply Kd.R_alloc | apply Kd.R_drewN | apply Kd.R_drew)); exact Kd.R_mono (Kd.R_far (p := ⟨gb149, 3, none⟩) (Kd.R_far (p := ⟨gb149, 2, none⟩) (Kd.R_far (p := ⟨gb149, 1, none⟩) (Kd.R_far (p := ⟨gb149, 0, none⟩) (Kd.R_mono HO153.out (fun k_ hk => (⟨hk, hk⟩ : _ ∧ k_ ≠ gb149))) (fun _ hk => hk.2) (.int .i8 t154)) (fun _ hk => hk.2) (.int .i8 t155)) (fun _ hk => hk.2) (.int .i8 t156)) (fun _ hk => hk.2) (.int .i8 t157)) (fun _ hk => hk.1)⟩, ⟨by (with_reducible repeat (first | refine zc ?_ _ | refine zd ?_ | refine zb ?_ _)); refine zm ?_ NB139_149.out _; (with_reducible repeat (first | refine zc ?_ _ | refine zd ?_ | refine zb ?_ _)); refine zm ?_ NB139_149.out _; (with_reducible repeat (first | refine zc ?_ _ | refine zd ?_ | refine zb ?_ _)); refine zm ?_ NB139_149.out _; (with_reducible repeat (first | refine zc ?_ _ | refine zd ?_ | refine zb ?_ _)); refine zm ?_ NB139_149.out _; (with_reducible repeat (first | refine zc ?_ _ | refine zd ?_ | refine zb ?_ _)); exact BK139.out⟩, ⟨by (with_reducible repeat (first | refine zc ?_ _ | refine zd ?_ | refine zb ?_ _)); refine zm ?_ NB143_149.out _; (with_reducible repeat (first | refine zc ?_ _ | refine zd ?_ | refine zb ?_ _)); refine zm ?_ NB143_149.out _; (with_reducible repeat (first | refine zc ?_ _ | refine zd ?_ | refine zb ?_ _)); refine zm ?_ NB143_149.out _; (with_reducible repeat (first | refine zc ?_ _ | refine zd ?_ | refine zb ?_ _)); refine zm ?_ NB143_149.out _; (with_reducible repeat (first | refine zc ?_ _ | refine zd ?_ | refine zb ?_ _)); exact BK143.out⟩, ⟨by (with_reducible repeat (first | refine zc ?_ _ | refine zd ?_ | refine zb ?_ _)); refine zl (cs := #[.int .i8 t154, .int .i8 t155, .int .i8 t156, .int .i8 x150003_5]) ?_ 3 _ rfl; (with_reducible repeat (first | refine zc ?_ _ | refine zd ?_ | refine zb ?_ _)); refine zl (cs := #[.int .i8 t154, .int .i8 t155, .int .i8 x150002_5, .int .i8 x150003_5]) ?_ 2 _ rfl; (with_reducible repeat (first | refine zc ?_ _ | refine zd ?_ | refine zb ?_ _)); refine zl (cs := #[.int .i8 t154, .int .i8 x150001_5, .int .i8 x150002_5, .int .i8 x150003_5]) ?_ 1 _ rfl; (with_reducible repeat (first | refine zc ?_ _ | refine zd ?_ | refine zb ?_ _)); refine zl (cs := #[.int .i8 x150000_5, .int .i8 x150001_5, .int .i8 x150002_5, .int .i8 x150003_5]) ?_ 0 _ rfl; (with_reducible repeat (first | refine zc ?_ _ | refine zd ?_ | refine zb ?_ _)); exact BK149.out⟩, ⟨sB⟩⟩
              rw [if_neg c44] at H
              exact absurd H (by simp)
             rw [if_neg c43] at H
             have c43b0 : decide (x11_5 < 3) = false := decide_eq_false c43
             clear c43
             have H' := za.mk H
             clear H
             go_wp2
             go_roundg k5
             case measure => have := HJ3.out; have := HK2.out; have := HJ16.out; have := HJ24.out; have := HK5.out; omega
             case rel => exact ⟨(wrap64 (x9_2 + 1)), (x144002_5), (u144002), (by first | rfl | (simp; done) | (simp [*]; done)), H', ⟨by have := HJ3.out; have := HK2.out; have := HJ16.out; have := HJ24.out; have := HK5.out; omega⟩, ⟨uR' (Kd.R_mono HO_144002.out (fun _ hk => trivial))⟩, ⟨uK BK139⟩, ⟨uK BK143⟩, ⟨sB⟩⟩
        replace c23 := Bool.eq_false_iff.mpr c23
        subst c23
        have H1 : (if (x144002_2.length : Int) < a2 then (some (0, 0, ([] : List (S43)), 6)) else (some ((IntKind.i8.wrap (a0)), (IntKind.i8.wrap (a1)), x144002_2, 0))) = some (r1, r2, r3, r4) := by rw [if_neg (show ¬ (false = true) by decide)] at H; exact H
        clear H
        have H := H1
        clear H1
        by_cases c57 : (x144002_2.length : Int) < a2
        ·rw [if_pos c57] at H
         have c57b0 : decide ((x144002_2.length : Int) < a2) = true := decide_eq_true c57
         clear c57
         simp only [Option.some.injEq, Prod.mk.injEq] at H
         obtain ⟨rfl, rfl, rfl, rfl⟩ := H
         have hnb58 := NB143_139.out
         have hnc58 := NB139_143.out
         obtain ⟨hcz59_0, hcz59_1, hcz59_2⟩ := xc3 BK143
         obtain ⟨hfz59_0, hfz59_1, hfz59_2⟩ := xf3 BK143
         obtain ⟨Ao60, co60, eo60⟩ := Kd.R_slice HO_144002.out
         subst eo60
         obtain ⟨hcz61_0, hcz61_1, hcz61_2⟩ := xc3 BK139
         obtain ⟨hfz61_0, hfz61_1, hfz61_2⟩ := xf3 BK139
         go_wp2
         refine bodyPost_ret (zoa rfl _ _ gb139 28 #[.int .i8 0, .int .i8 0, .slice none 0 0] (0, 0) _ rfl (by (with_reducible repeat (first | refine zc ?_ _ | refine zd ?_ | refine zb ?_ _)); refine zl (cs := #[.int .i8 0, .int .i8 0, .slice none 0 0]) ?_ 2 _ rfl; (with_reducible repeat (first | refine zc ?_ _ | refine zd ?_ | refine zb ?_ _)); refine zl (cs := #[.int .i8 0, .int .i8 0, .slice none 0 0]) ?_ 1 _ rfl; (with_reducible repeat (first | refine zc ?_ _ | refine zd ?_ | refine zb ?_ _)); refine zl (cs := #[.int .i8 0, .int .i8 0, .slice none 0 0]) ?_ 0 _ rfl; (with_reducible repeat (first | refine zc ?_ _ | refine zd ?_ | refine zb ?_ _)); exact BK139.out) Try.underlying28 rfl (by kernel_rfl)) rfl ?_
         exact ⟨_, by first | rfl | (simp [zk, zj] <;> rfl) | (simp [*, zk, zj] <;> rfl), by first | exact Kd.R_nil _ _ _ _ _ | exact Kd.N_nil _ _ _ _ _ | exact Kd.V_nil _ _ _ _ _ | exact Kd.Q_nil _ _ _ _ _ | exact Kd.S_nil _ _ _ _ _, sB⟩
        rw [if_neg c57] at H
        have c57b0 : decide ((x144002_2.length : Int) < a2) = false := decide_eq_false c57
        clear c57
        simp only [Option.some.injEq, Prod.mk.injEq] at H
        obtain ⟨rfl, rfl, rfl, rfl⟩ := H
        have hnb62 := NB143_139.out
        have hnc62 := NB139_143.out
        obtain ⟨hcz63_0, hcz63_1, hcz63_2⟩ := xc3 BK143
        obtain ⟨hfz63_0, hfz63_1, hfz63_2⟩ := xf3 BK143
        obtain ⟨Ao64, co64, eo64⟩ := Kd.R_slice HO_144002.out
        subst eo64
        obtain ⟨hcz65_0, hcz65_1, hcz65_2⟩ := xc3 BK139
        obtain ⟨hfz65_0, hfz65_1, hfz65_2⟩ := xf3 BK139
        go_wp2
        refine bodyPost_ret (zoa rfl _ _ gb139 28 #[.int .i8 (IntKind.i8.wrap (a0)), .int .i8 (IntKind.i8.wrap (a1)), .slice Ao64 x144002_2.length co64] (0, 0) _ rfl (by (with_reducible repeat (first | refine zc ?_ _ | refine zd ?_ | refine zb ?_ _)); refine zl (cs := #[.int .i8 (IntKind.i8.wrap (a0)), .int .i8 (IntKind.i8.wrap (a1)), .slice none 0 0]) ?_ 2 _ rfl; (with_reducible repeat (first | refine zc ?_ _ | refine zd ?_ | refine zb ?_ _)); refine zl (cs := #[.int .i8 (IntKind.i8.wrap (a0)), .int .i8 0, .slice none 0 0]) ?_ 1 _ rfl; (with_reducible repeat (first | refine zc ?_ _ | refine zd ?_ | refine zb ?_ _)); refine zl (cs := #[.int .i8 0, .int .i8 0, .slice none 0 0]) ?_ 0 _ rfl; (with_reducible repeat (first | refine zc ?_ _ | refine zd ?_ | refine zb ?_ _)); exact BK139.out) Try.underlying28 rfl (by kernel_rfl)) rfl ?_
        exact ⟨_, by first | rfl | (simp [zk, zj] <;> rfl) | (simp [*, zk, zj] <;> rfl), by (with_reducible repeat (first | apply Kd.R_alloc | apply Kd.R_drewN | apply Kd.R_drew)); exact Kd.R_mono (Kd.R_far (p := ⟨gb139, 2, none⟩) (Kd.R_far (p := ⟨gb139, 1, none⟩) (Kd.R_far (p := ⟨gb139, 0, none⟩) (Kd.R_types HO_144002.out BK139.out (by decide)) (fun _ hk => hk.2) (.int .i8 (IntKind.i8.wrap (a0)))) (fun _ hk => hk.2) (.int .i8 (IntKind.i8.wrap (a1)))) (fun _ hk => hk.2) (.slice Ao64 x144002_2.length co64)) (fun _ hk => trivial), sB⟩
   rw [if_neg c13] at H
   have c13b0 : ((Int.tmod a2 3) == 0) = false := beq_eq_false_iff_ne.mpr c13
   have c13b1 : ((Int.tmod a2 3) != 0) = true := bne_iff_ne.mpr c13
   simp only [Option.some.injEq, Prod.mk.injEq] at H
   obtain ⟨rfl, rfl, rfl, rfl⟩ := H
   obtain ⟨hcz66_0, hcz66_1, hcz66_2⟩ := xc3 BK139
   obtain ⟨hfz66_0, hfz66_1, hfz66_2⟩ := xf3 BK139
   go_wp2
   refine bodyPost_ret (zoa rfl _ _ gb139 28 #[.int .i8 0, .int .i8 0, .slice none 0 0] (0, 0) _ rfl (by (with_reducible repeat (first | refine zc ?_ _ | refine zd ?_ | refine zb ?_ _)); refine zl (cs := #[.int .i8 0, .int .i8 0, .slice none 0 0]) ?_ 2 _ rfl; (with_reducible repeat (first | refine zc ?_ _ | refine zd ?_ | refine zb ?_ _)); refine zl (cs := #[.int .i8 0, .int .i8 0, .slice none 0 0]) ?_ 1 _ rfl; (with_reducible repeat (first | refine zc ?_ _ | refine zd ?_ | refine zb ?_ _)); refine zl (cs := #[.int .i8 0, .int .i8 0, .slice none 0 0]) ?_ 0 _ rfl; (with_reducible repeat (first | refine zc ?_ _ | refine zd ?_ | refine zb ?_ _)); exact BK139.out) Try.underlying28 rfl (by kernel_rfl)) rfl ?_
   exact ⟨_, by first | rfl | (simp [zk, zj] <;> rfl) | (simp [*, zk, zj] <;> rfl), by first | exact Kd.R_nil _ _ _ _ _ | exact Kd.N_nil _ _ _ _ _ | exact Kd.V_nil _ _ _ _ _ | exact Kd.Q_nil _ _ _ _ _ | exact Kd.S_nil _ _ _ _ _, sB⟩

end Go.Proofs.Ytmfbcklaomigaaa.N
