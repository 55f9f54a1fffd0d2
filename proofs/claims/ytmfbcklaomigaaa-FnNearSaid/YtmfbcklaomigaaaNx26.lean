-- Written by wip/tools/myprint.py, a program of this session, by way of the kit's print.
import Derived.Test.YtmfbcklaomigaaaNx0
import Derived.Test.YtmfbcklaomigaaaNx2
import Derived.Test.YtmfbcklaomigaaaNx15
import Derived.Test.YtmfbcklaomigaaaNx16
import Derived.Test.YtmfbcklaomigaaaNx18
import Derived.Test.YtmfbcklaomigaaaNx20
import Derived.Test.YtmfbcklaomigaaaNx21
import Derived.Test.YtmfbcklaomigaaaLPrN
namespace Go.Proofs.Ytmfbcklaomigaaa.N
open Go.RowKit Go.Proofs.YtmfbcklaomigaaaW.PrintWords Go.Proofs.YtmfbcklaomigaaaW.PrintLast Go.Proofs.YtmfbcklaomigaaaW.PrintMore
attribute [local go_sem] zqa zpa zwa zxa zla zka zra zta   -- for this text's walks alone
set_option linter.unusedVariables false
set_option linter.unusedSimpArgs false

/-! ### spec_DecodeNear: function 31 -/
mutual
def spec_DecodeNear.j0 : Nat → Int → Bool → Int → Int → List (S43) → Int → Int → Int → Int → Option (Int × Bool × Int)
 | 0, _, _, _, _, _, _, _, _, _ => none
 | k + 1, x2, x20, x424000, x424001, x424002, x425000, x425001, x425002, x425003 => if x20 = true then (some (0, false, 1)) else ((spec_l00In.f x2 0 4).bind fun t428 => (if t428 = true then ((spec_l04Cases.f k x424000 x424001 x424002).bind fun t429 => (spec_DecodeNear.l0 k x2 t429 (([] : List (S38))) 0 x424000 x424001 x424002 x425000 x425001 x425002 x425003)) else (some (0, false, 2))))
def spec_DecodeNear.l0 : Nat → Int → List (S38) → List (S38) → Int → Int → Int → List (S43) → Int → Int → Int → Int → Option (Int × Bool × Int)
 | 0, _, _, _, _, _, _, _, _, _, _, _ => none
 | k + 1, x2, x8, x9, x10, x424000, x424001, x424002, x425000, x425001, x425002, x425003 => if x10 < (x8.length : Int) then (if 0 ≤ x10 then ((spec_l04Seen.f k x424000 x424001 x424002 ((zf x8 x10).f0) ((zf x8 x10).f1)).bind fun bt436 => ((spec_l04Distance.f k bt436.1 bt436.2.1 bt436.2.2.1 bt436.2.2.2 x425000 x425001 x425002 x425003).bind fun t440 => (if t440 ≤ x2 then (if x9.length < 70368744177664 then (spec_DecodeNear.l0 k x2 x8 (x9 ++ [(⟨(zf x8 x10).f0, (zf x8 x10).f1⟩ : S38)]) (wrap64 (x10 + 1)) x424000 x424001 x424002 x425000 x425001 x425002 x425003) else (none)) else (spec_DecodeNear.l0 k x2 x8 x9 (wrap64 (x10 + 1)) x424000 x424001 x424002 x425000 x425001 x425002 x425003)))) else (none)) else (if (x9.length : Int) = 0 then (some (0, false, 6)) else (if (x9.length : Int) > 1 then (some (0, false, 8)) else (if 0 < (x9.length : Int) then (some ((zf x9 0).f0, (zf x9 0).f1, 0)) else (none))))
end
def spec_DecodeNear.f (k : Nat) (a0_0 : Int) (a0_1 : Int) (l0_2 : List (S43)) (a1_0 : Int) (a1_1 : Int) (a1_2 : Int) (a1_3 : Int) (a2 : Int) : Option (Int × Bool × Int) := (spec_l04Ok.f k a0_0 a0_1 l0_2).bind fun t426 => (if t426 = true then ((spec_l04Word.f k (wrap64 (a0_0)) a1_0 a1_1 a1_2 a1_3).bind fun t427 => (spec_DecodeNear.j0 k a2 (!t427) a0_0 a0_1 l0_2 a1_0 a1_1 a1_2 a1_3)) else (spec_DecodeNear.j0 k a2 true a0_0 a0_1 l0_2 a1_0 a1_1 a1_2 a1_3))
def spec_DecodeNear.T10 : Bool × List (List Nat × List Nat) := (true, [([], []), ([], []), ([0, 1], [0, 1]), ([2], [2]), ([3], [3]), ([], []), ([4, 5, 4], [4, 5]), ([], []), ([6, 7], [6, 7])])
def spec_DecodeNear.B10 : List Nat := [0, 0, 3, 7, 15, 0, 63, 0, 255]
theorem spec_DecodeNear.tab10 : rtab .any (zme Try.f31 10) = spec_DecodeNear.T10 := by kernel_rfl
theorem spec_DecodeNear.bits10 : zpb spec_DecodeNear.T10.2 spec_DecodeNear.B10 = true := by kernel_rfl
set_option maxHeartbeats 8000000 in
set_option maxRecDepth 100000 in
theorem spec_DecodeNear.calls (k : Nat) (a0_0 : Int) (a0_1 : Int) (A0_2 : Option Addr) (c0_2 : Nat) (l0_2 : List (S43)) (a1_0 : Int) (a1_1 : Int) (a1_2 : Int) (a1_3 : Int) (a2 : Int) (r1 : Int) (r2 : Bool) (r3 : Int) (w : World) (hr0_2 : Kd.C k43 w A0_2 l0_2.length l0_2) (hc0_2 : l0_2.length ≤ c0_2) (h : spec_DecodeNear.f k a0_0 a0_1 l0_2 a1_0 a1_1 a1_2 a1_3 a2 = some (r1, r2, r3)) :
  Calls Try.prog 31 #[.agg #[.int .i8 a0_0, .int .i8 a0_1, .slice A0_2 l0_2.length c0_2], .agg #[.int .i8 a1_0, .int .i8 a1_1, .int .i8 a1_2, .int .i8 a1_3], .int .i64 a2] w fun e w' => e = .returned (.tuple #[.agg #[.int .i8 r1, .bool r2], .int .i64 r3]) ∧ Below w.heap.size w w' := by
 have hu28 := Try.underlying28
 have hu43 := Try.underlying43
 have hu38 := Try.underlying38
 have HR0_2 := za.mk hr0_2
 have HC0_2 := za.mk hc0_2
 clear hr0_2 hc0_2
 have HB := za.mk (Below.refl w.heap.size w)
 have H : ((spec_l04Ok.f k a0_0 a0_1 l0_2).bind fun t426 => (if t426 = true then ((spec_l04Word.f k (wrap64 (a0_0)) a1_0 a1_1 a1_2 a1_3).bind fun t427 => (spec_DecodeNear.j0 k a2 (!t427) a0_0 a0_1 l0_2 a1_0 a1_1 a1_2 a1_3)) else (spec_DecodeNear.j0 k a2 true a0_0 a0_1 l0_2 a1_0 a1_1 a1_2 a1_3))) = some (r1, r2, r3) := h
 clear h
 have HC4 := za.mk H
 clear H
 go_enter Try.func31, Try.ntmps31
 go_upto_region 1 with (first | ((with_reducible refine zn (N := 3) rfl ?_); refine bx (N := 3) #[.int .i8 a0_0, .int .i8 a0_1, .slice A0_2 l0_2.length c0_2] 28 rfl ?_; intro gb423 hg w5 hbox hb; have BK423 := za.mk hbox; have GW423 := gB hg; have GE423 := GW423; replace HB := za.mk (ze sB hb); clear hb hbox hg) | ((with_reducible refine zn (N := 4) rfl ?_); refine bx (N := 4) #[.int .i8 a1_0, .int .i8 a1_1, .int .i8 a1_2, .int .i8 a1_3] 43 rfl ?_; intro gb424 hg w6 hbox hb; have BK424 := za.mk hbox; have GW424 := gB hg; have GE424 := GW424; have NB423_424 := nK hg BK423; have NB424_423 := za.mk NB423_424.out.symm; replace BK423 := dK BK423 hb; replace HB := za.mk (ze sB hb); clear hb hbox hg) | ((with_reducible refine zn (N := 6) rfl ?_); refine bx (N := 6) #[.int .i8 0, .bool false] 38 rfl ?_; intro gb425 hg w7 hbox hb; have BK425 := za.mk hbox; have GW425 := gB hg; have GE425 := GW425; have NB423_425 := nK hg BK423; have NB425_423 := za.mk NB423_425.out.symm; have NB424_425 := nK hg BK424; have NB425_424 := za.mk NB424_425.out.symm; replace BK423 := dK BK423 hb; replace BK424 := dK BK424 hb; replace HB := za.mk (ze sB hb); clear hb hbox hg))
 (try simp only [Act.put, List.setIfInBounds_toArray, List.set_cons_zero, List.set_cons_succ])
 go_cut [20] (fun v20 wc => ∃ (kq : Nat) (x20_3 : Bool) (x424000_3 : Int) (x424001_3 : Int), v20 = .bool x20_3 ∧ za (spec_DecodeNear.j0 kq a2 x20_3 x424000_3 x424001_3 l0_2 a1_0 a1_1 a1_2 a1_3 = some (r1, r2, r3)) ∧ za (kq ≤ k) ∧ za (wc.heap[gb423]? = some (.cells #[.int .i8 x424000_3, .int .i8 x424001_3, (.slice A0_2 l0_2.length c0_2)] 28 (0, 0))) ∧ za (wc.heap[gb424]? = some (.cells #[.int .i8 a1_0, .int .i8 a1_1, .int .i8 a1_2, .int .i8 a1_3] 43 (0, 0))) ∧ za (wc.heap[gb425]? = some (.cells #[.int .i8 0, .bool false] 38 (0, 0))) ∧ za (Below w.heap.size w wc))
 case first =>
  have H := HC4.out
  clear HC4
  replace H := Option.bind_eq_some_iff.mp H
  obtain ⟨t426, A80, H⟩ := H
  replace H : (if t426 = true then ((spec_l04Word.f k (wrap64 (a0_0)) a1_0 a1_1 a1_2 a1_3).bind fun t427 => (spec_DecodeNear.j0 k a2 (!t427) a0_0 a0_1 l0_2 a1_0 a1_1 a1_2 a1_3)) else (spec_DecodeNear.j0 k a2 true a0_0 a0_1 l0_2 a1_0 a1_1 a1_2 a1_3)) = some (r1, r2, r3) := H
  have A8 := za.mk A80
  clear A80
  by_cases c9 : t426 = true
  ·subst c9
   have H1 : ((spec_l04Word.f k (wrap64 (a0_0)) a1_0 a1_1 a1_2 a1_3).bind fun t427 => (spec_DecodeNear.j0 k a2 (!t427) a0_0 a0_1 l0_2 a1_0 a1_1 a1_2 a1_3)) = some (r1, r2, r3) := by rw [if_pos rfl] at H; exact H
   clear H
   have H := H1
   clear H1
   replace H := Option.bind_eq_some_iff.mp H
   obtain ⟨t427, A100, H⟩ := H
   replace H : (spec_DecodeNear.j0 k a2 (!t427) a0_0 a0_1 l0_2 a1_0 a1_1 a1_2 a1_3) = some (r1, r2, r3) := H
   have A10 := za.mk A100
   clear A100
   have H' := za.mk H
   clear H
   go_wp2_with (first | ((with_reducible refine zo (f := 59) rfl ?_); refine gz (some 11) Try.func59 #[.pointer (some ⟨gb423, 0, none⟩)] rfl rfl ?_; (with_reducible refine (spec_l04Ok.calls k gb423 a0_0 a0_1 A0_2 c0_2 l0_2 true _ ?side1 ?side2 ?side3 A8.out).mono ?_); (case side1 => exact uK BK423); (case side2 => exact uC HR0_2 HB); (case side3 => exact HC0_2.out); rintro e w11 ⟨rfl, hb⟩; refine ⟨_, rfl, ?_⟩; replace BK423 := dK BK423 hb; replace BK424 := dK BK424 hb; replace BK425 := dK BK425 hb; replace HB := za.mk (ze sB hb); try clear hb; have hnb12 := NB423_424.out; have hnc12 := NB424_423.out; have hnb13 := NB423_425.out; have hnc13 := NB425_423.out; obtain ⟨hcz14_0, hcz14_1, hcz14_2⟩ := xc3 BK423; obtain ⟨hfz14_0, hfz14_1, hfz14_2⟩ := xf3 BK423; have hnb15 := NB424_425.out; have hnc15 := NB425_424.out; obtain ⟨hcz16_0, hcz16_1, hcz16_2, hcz16_3⟩ := xc4 BK424; obtain ⟨hfz16_0, hfz16_1, hfz16_2, hfz16_3⟩ := xf4 BK424) | (go_at_call 86; (with_reducible refine (spec_l04Word.calls k (wrap64 (a0_0)) a1_0 a1_1 a1_2 a1_3 t427 _ A10.out).mono ?_); rintro e w17 ⟨rfl, hb⟩; replace BK423 := dK BK423 hb; replace BK424 := dK BK424 hb; replace BK425 := dK BK425 hb; replace HB := za.mk (ze sB hb); try clear hb))
   go_meet
   case rel => exact ⟨_, (!t427), (a0_0), (a0_1), (by first | rfl | (simp; done) | (simp [*]; done)), H', ⟨by first | omega | exact Nat.le_refl _⟩, ⟨uK BK423⟩, ⟨uK BK424⟩, ⟨uK BK425⟩, ⟨sB⟩⟩
  replace c9 := Bool.eq_false_iff.mpr c9
  subst c9
  have H1 : (spec_DecodeNear.j0 k a2 true a0_0 a0_1 l0_2 a1_0 a1_1 a1_2 a1_3) = some (r1, r2, r3) := by rw [if_neg (show ¬ (false = true) by decide)] at H; exact H
  clear H
  have H := H1
  clear H1
  have H' := za.mk H
  clear H
  go_wp2_with (first | ((with_reducible refine zo (f := 59) rfl ?_); refine gz (some 11) Try.func59 #[.pointer (some ⟨gb423, 0, none⟩)] rfl rfl ?_; (with_reducible refine (spec_l04Ok.calls k gb423 a0_0 a0_1 A0_2 c0_2 l0_2 false _ ?side1 ?side2 ?side3 A8.out).mono ?_); (case side1 => exact uK BK423); (case side2 => exact uC HR0_2 HB); (case side3 => exact HC0_2.out); rintro e w18 ⟨rfl, hb⟩; refine ⟨_, rfl, ?_⟩; replace BK423 := dK BK423 hb; replace BK424 := dK BK424 hb; replace BK425 := dK BK425 hb; replace HB := za.mk (ze sB hb); try clear hb))
  go_meet
  case rel => exact ⟨_, (true), (a0_0), (a0_1), (by first | rfl | (simp; done) | (simp [*]; done)), H', ⟨by first | omega | exact Nat.le_refl _⟩, ⟨uK BK423⟩, ⟨uK BK424⟩, ⟨uK BK425⟩, ⟨sB⟩⟩
 case rest =>
  clear HC4
  try clear c1
  try clear p2
  try clear c3
  try clear c5
  try clear p6
  try clear c9
  try clear c12
  try clear c13
  try clear c15
  try clear hcz14_0 hcz14_1 hcz14_2
  try clear hcz16_0 hcz16_1 hcz16_2 hcz16_3
  try clear hfz14_0 hfz14_1 hfz14_2
  try clear hfz16_0 hfz16_1 hfz16_2 hfz16_3
  obtain ⟨kq, x20_3, x424000_3, x424001_3, rfl, HA, HJ3, BK423, BK424, BK425, HB⟩ := hcut
  cases kq with
  | zero => exact absurd HA.out (by simp [spec_DecodeNear.j0])
  | succ kj3 =>
   have H := HA.out
   clear HA
   simp only [spec_DecodeNear.j0] at H
   by_cases c19 : x20_3 = true
   ·subst c19
    have H1 : (some (0, false, 1)) = some (r1, r2, r3) := by rw [if_pos rfl] at H; exact H
    clear H
    have H := H1
    clear H1
    simp only [Option.some.injEq, Prod.mk.injEq] at H
    obtain ⟨rfl, rfl, rfl⟩ := H
    have hnb20 := NB425_423.out
    have hnc20 := NB423_425.out
    have hnb21 := NB425_424.out
    have hnc21 := NB424_425.out
    obtain ⟨hcz22_0, hcz22_1⟩ := xc2 BK425
    obtain ⟨hfz22_0, hfz22_1⟩ := xf2 BK425
    go_wp2
    refine bodyPost_ret (zoa rfl _ _ gb425 38 #[.int .i8 0, .bool false] (0, 0) _ rfl (by (with_reducible repeat (first | refine zc ?_ _ | refine zd ?_ | refine zb ?_ _)); refine zl (cs := #[.int .i8 0, .bool false]) ?_ 1 _ rfl; (with_reducible repeat (first | refine zc ?_ _ | refine zd ?_ | refine zb ?_ _)); refine zl (cs := #[.int .i8 0, .bool false]) ?_ 0 _ rfl; (with_reducible repeat (first | refine zc ?_ _ | refine zd ?_ | refine zb ?_ _)); exact BK425.out) Try.underlying38 rfl (by kernel_rfl)) rfl ?_
    exact ⟨by first | rfl | (simp [zk, zj] <;> rfl) | (simp [*, zk, zj] <;> rfl), sB⟩
   replace c19 := Bool.eq_false_iff.mpr c19
   subst c19
   have H1 : ((spec_l00In.f a2 0 4).bind fun t428 => (if t428 = true then ((spec_l04Cases.f kj3 x424000_3 x424001_3 l0_2).bind fun t429 => (spec_DecodeNear.l0 kj3 a2 t429 (([] : List (S38))) 0 x424000_3 x424001_3 l0_2 a1_0 a1_1 a1_2 a1_3)) else (some (0, false, 2)))) = some (r1, r2, r3) := by rw [if_neg (show ¬ (false = true) by decide)] at H; exact H
   clear H
   have H := H1
   clear H1
   replace H := Option.bind_eq_some_iff.mp H
   obtain ⟨t428, A230, H⟩ := H
   replace H : (if t428 = true then ((spec_l04Cases.f kj3 x424000_3 x424001_3 l0_2).bind fun t429 => (spec_DecodeNear.l0 kj3 a2 t429 (([] : List (S38))) 0 x424000_3 x424001_3 l0_2 a1_0 a1_1 a1_2 a1_3)) else (some (0, false, 2))) = some (r1, r2, r3) := H
   have A23 := za.mk A230
   clear A230
   by_cases c24 : t428 = true
   ·subst c24
    have H1 : ((spec_l04Cases.f kj3 x424000_3 x424001_3 l0_2).bind fun t429 => (spec_DecodeNear.l0 kj3 a2 t429 (([] : List (S38))) 0 x424000_3 x424001_3 l0_2 a1_0 a1_1 a1_2 a1_3)) = some (r1, r2, r3) := by rw [if_pos rfl] at H; exact H
    clear H
    have H := H1
    clear H1
    replace H := Option.bind_eq_some_iff.mp H
    obtain ⟨t429, A250, H⟩ := H
    replace H : (spec_DecodeNear.l0 kj3 a2 t429 (([] : List (S38))) 0 x424000_3 x424001_3 l0_2 a1_0 a1_1 a1_2 a1_3) = some (r1, r2, r3) := H
    have A25 := za.mk A250
    clear A250
    obtain ⟨y432, hy432⟩ : ∃ y_ : List (S38), y_ = (([] : List (S38))) := ⟨_, rfl⟩
    replace H : (spec_DecodeNear.l0 kj3 a2 t429 y432 0 x424000_3 x424001_3 l0_2 a1_0 a1_1 a1_2 a1_3) = some (r1, r2, r3) := by first | (rw [hy432]; with_reducible exact H) | (have H2_ := (Option.bind_some _ _).symm.trans H; rw [hy432]; with_reducible exact H2_) | (have H2_ := (Option.bind_some _ _).symm.trans H; with_reducible exact H2_) | with_reducible exact H | (rw [hy432]; exact H) | exact H
    have Ny432 := za.mk hy432
    clear hy432
    have H' := za.mk H
    clear H
    go_wp2_with (first | ((with_reducible refine zo (f := 51) rfl ?_); refine gz (some 23) Try.func51 #[.int .i64 a2, .int .i64 0, .int .i64 4] rfl rfl ?_; (with_reducible refine (spec_l00In.calls a2 0 4 true _ A23.out).mono ?_); rintro e w' ⟨rfl, ⟨nd, rfl⟩⟩; refine ⟨_, rfl, ?_⟩) | ((with_reducible refine zo (f := 81) rfl ?_); refine gz (some 26) Try.func81 #[.pointer (some ⟨gb423, 0, none⟩)] rfl rfl ?_; (with_reducible refine (spec_l04Cases.calls kj3 gb423 x424000_3 x424001_3 A0_2 c0_2 l0_2 t429 _ ?side1 ?side2 ?side3 A25.out).mono ?_); (case side1 => exact uK BK423); (case side2 => repeat (first | exact (Kd.C_below HR0_2.out sB) | (with_reducible refine Kd.C_alloc ?_ _) | (with_reducible refine Kd.C_drewN ?_ _) | (with_reducible refine Kd.C_drew ?_))); (case side3 => exact HC0_2.out); rintro e w26 ⟨v430, rfl, ho0, hb⟩; refine ⟨_, rfl, ?_⟩; have HO431 := za.mk (Kd.R_lower (Kd.R_newB ho0 (g := gb425) (o := .cells #[.int .i8 0, .bool false] 38 (0, 0)) (uK BK425)) (zv sB)); replace BK423 := dK BK423 hb; replace BK424 := dK BK424 hb; replace BK425 := dK BK425 hb; replace HB := za.mk (ze sB hb); try clear hb) | ((with_reducible refine zn (N := 27) rfl ?_); refine Kd.R_lit k38 _ 38 ?hg (N := 27) ?hd (xs := ([] : List (S38))) (inner := []) (ok := fun _ => True) (okp := fun _ => True) ?hr ?hp (fun _ hk => hk) trivial (Below.refl _ _) (Nat.le_refl _) (by simp) ?_; (case hd => rfl); (case hg => rfl); (case hr => first | (go_simp; done) | (go_simp; rfl)); (case hp => exact (Reps.none _ _)); intro v433 w27 ho28 hb hg_ hnew_; clear hg_ hnew_; (first | rw [← Ny432.out] at ho28 | (simp only [Int.reduceToNat] at ho28; rw [← Ny432.out] at ho28)); have HO434 := za.mk (Kd.R_lower (Kd.R_newB (Kd.R_new' ho28 (Kd.R_lt (uR HO431))) (g := gb425) (o := .cells #[.int .i8 0, .bool false] 38 (0, 0)) (uK BK425)) (zv sB)); replace HO431 := za.mk (Kd.R_elder' (uR HO431) (Kd.R_base ho28) hb); replace BK423 := dK BK423 hb; replace BK424 := dK BK424 hb; replace BK425 := dK BK425 hb; replace HB := za.mk (ze sB hb); clear hb ho28))
    go_loopg [9, 10] kj3 (fun kq v9 v10 w' => ∃ (x9_2 : List (S38)) (x10_2 : Int) (x424000_2 : Int) (x424001_2 : Int), v10 = .int .i64 x10_2 ∧ za (spec_DecodeNear.l0 kq a2 t429 x9_2 x10_2 x424000_2 x424001_2 l0_2 a1_0 a1_1 a1_2 a1_3 = some (r1, r2, r3)) ∧ za (kq ≤ kj3) ∧ za (Kd.R k38 38 w' w.heap.size (fun k_ => some k_ ≠ (v9 : Value).ownBlock ∧ k_ ≠ gb425) v430 t429) ∧ za (Kd.R k38 38 w' w.heap.size (fun k_ => some k_ ≠ (v430 : Value).ownBlock ∧ k_ ≠ gb425) v9 x9_2) ∧ za (w'.heap[gb423]? = some (.cells #[.int .i8 x424000_2, .int .i8 x424001_2, (.slice A0_2 l0_2.length c0_2)] 28 (0, 0))) ∧ za (w'.heap[gb424]? = some (.cells #[.int .i8 a1_0, .int .i8 a1_1, .int .i8 a1_2, .int .i8 a1_3] 43 (0, 0))) ∧ za (w'.heap[gb425]? = some (.cells #[.int .i8 0, .bool false] 38 (0, 0))) ∧ za (Below w.heap.size w w'))
    case atStart => exact ⟨(y432), (0), (x424000_3), (x424001_3), (by first | rfl | (simp; done) | (simp [*]; done)), H', ⟨Nat.le_refl _⟩, ⟨by (with_reducible repeat (first | apply Kd.R_alloc | apply Kd.R_drewN | apply Kd.R_drew)); exact Kd.R_mono HO431.out (fun _ hk => ⟨hk.2, hk.1.2⟩)⟩, ⟨by (with_reducible repeat (first | apply Kd.R_alloc | apply Kd.R_drewN | apply Kd.R_drew)); exact Kd.R_mono HO434.out (fun _ hk => ⟨hk.1.2, hk.2⟩)⟩, ⟨uK BK423⟩, ⟨uK BK424⟩, ⟨uK BK425⟩, ⟨sB⟩⟩
    case round =>
     clear H'
     try clear c1
     try clear c2
     try clear p2
     try clear c3
     try clear c5
     try clear p6
     try clear c8
     try clear c9
     try clear c12
     try clear c13
     try clear c15
     try clear c19
     try clear c20
     try clear c21
     try clear c24
     try clear hcz14_0 hcz14_1 hcz14_2
     try clear hcz16_0 hcz16_1 hcz16_2 hcz16_3
     try clear hcz22_0 hcz22_1
     try clear hfz14_0 hfz14_1 hfz14_2
     try clear hfz16_0 hfz16_1 hfz16_2 hfz16_3
     try clear hfz22_0 hfz22_1
     try clear p2
     try clear p6
     obtain ⟨x9_2, x10_2, x424000_2, x424001_2, rfl, HA, HK2, HO_8, HO_9, BK423, BK424, BK425, HB⟩ := hrel
     cases gk with
     | zero => exact absurd HA.out (by simp [spec_DecodeNear.l0])
     | succ k2 =>
      have H := HA.out
      clear HA
      simp only [spec_DecodeNear.l0] at H
      by_cases c29 : x10_2 < (t429.length : Int)
      ·rw [if_pos c29] at H
       have c29b0 : decide (x10_2 < (t429.length : Int)) = true := decide_eq_true c29
       clear c29
       by_cases c30 : 0 ≤ x10_2
       ·rw [if_pos c30] at H
        have c30b0 : decide (0 ≤ x10_2) = true := decide_eq_true c30
        clear c30
        replace H := Option.bind_eq_some_iff.mp H
        obtain ⟨⟨t436, t437, t438, t439⟩, A310, H⟩ := H
        replace H : ((spec_l04Distance.f k2 t436 t437 t438 t439 a1_0 a1_1 a1_2 a1_3).bind fun t440 => (if t440 ≤ a2 then (if x9_2.length < 70368744177664 then (spec_DecodeNear.l0 k2 a2 t429 (x9_2 ++ [(⟨(zf t429 x10_2).f0, (zf t429 x10_2).f1⟩ : S38)]) (wrap64 (x10_2 + 1)) x424000_2 x424001_2 l0_2 a1_0 a1_1 a1_2 a1_3) else (none)) else (spec_DecodeNear.l0 k2 a2 t429 x9_2 (wrap64 (x10_2 + 1)) x424000_2 x424001_2 l0_2 a1_0 a1_1 a1_2 a1_3))) = some (r1, r2, r3) := H
        have A31 := za.mk A310
        clear A310
        replace H := Option.bind_eq_some_iff.mp H
        obtain ⟨t440, A320, H⟩ := H
        replace H : (if t440 ≤ a2 then (if x9_2.length < 70368744177664 then (spec_DecodeNear.l0 k2 a2 t429 (x9_2 ++ [(⟨(zf t429 x10_2).f0, (zf t429 x10_2).f1⟩ : S38)]) (wrap64 (x10_2 + 1)) x424000_2 x424001_2 l0_2 a1_0 a1_1 a1_2 a1_3) else (none)) else (spec_DecodeNear.l0 k2 a2 t429 x9_2 (wrap64 (x10_2 + 1)) x424000_2 x424001_2 l0_2 a1_0 a1_1 a1_2 a1_3)) = some (r1, r2, r3) := H
        have A32 := za.mk A320
        clear A320
        by_cases c33 : t440 ≤ a2
        ·rw [if_pos c33] at H
         have c33b0 : decide (t440 ≤ a2) = true := decide_eq_true c33
         clear c33
         by_cases c34 : x9_2.length < 70368744177664
         ·rw [if_pos c34] at H
          have LMc34 := za.mk c34
          clear c34
          obtain ⟨y442, hy442⟩ : ∃ y_ : List (S38), y_ = (x9_2 ++ [(⟨(zf t429 x10_2).f0, (zf t429 x10_2).f1⟩ : S38)]) := ⟨_, rfl⟩
          replace H : (spec_DecodeNear.l0 k2 a2 t429 y442 (wrap64 (x10_2 + 1)) x424000_2 x424001_2 l0_2 a1_0 a1_1 a1_2 a1_3) = some (r1, r2, r3) := by first | (rw [hy442]; with_reducible exact H) | (have H2_ := (Option.bind_some _ _).symm.trans H; rw [hy442]; with_reducible exact H2_) | (have H2_ := (Option.bind_some _ _).symm.trans H; with_reducible exact H2_) | with_reducible exact H | (rw [hy442]; exact H) | exact H
          have Ny442 := za.mk hy442
          clear hy442
          have H' := za.mk H
          clear H
          obtain ⟨Ao35, co35, eo35⟩ := Kd.R_slice HO_8.out
          subst eo35
          try go_wp2
          have n0_ := za.mk (Kd.R_drew HO_8.out)
          have n1_ := za.mk (Kd.R_drew HO_9.out)
          have n2_ := za.mk (zd BK423.out)
          have n3_ := za.mk (zd BK424.out)
          have n4_ := za.mk (zd BK425.out)
          have n5_ := za.mk (zt HB.out)
          clear HO_8
          clear HO_9
          clear BK423
          clear BK424
          clear BK425
          clear HB
          have HO_8 := n0_
          have HO_9 := n1_
          have BK423 := n2_
          have BK424 := n3_
          have BK425 := n4_
          have HB := n5_
          clear n0_ n1_ n2_ n3_ n4_ n5_
          have p435 : 0 ≤ (x10_2 : Int) := of_decide_eq_true (by first | (with_reducible assumption) | assumption)
          have q435 : x10_2 < (t429.length : Int) := of_decide_eq_true (by first | (with_reducible assumption) | assumption)
          obtain ⟨ad435, e435, hx435_0, hx435_1⟩ := zsb (Kd.R_reads' HO_8.out).2.2 x10_2 p435 q435
          cases e435
          replace p435 := eq_true p435
          replace q435 := eq_true q435
          refine zbc (n := 9) (S := fun w' => w'.cell? ⟨gb424, 0, none⟩ = some (.int .i8 a1_0) ∧ w'.cell? ⟨gb424, 1, none⟩ = some (.int .i8 a1_1) ∧ w'.cell? ⟨gb424, 2, none⟩ = some (.int .i8 a1_2) ∧ w'.cell? ⟨gb424, 3, none⟩ = some (.int .i8 a1_3) ∧ w'.cell? (ad435.add ((x10_2).toNat * 2)) = some (.int .i8 ((zf t429 x10_2).f0)) ∧ w'.cell? ⟨(ad435.add ((x10_2).toNat * 2)).block, (ad435.add ((x10_2).toNat * 2)).off + 1, none⟩ = some (.bool ((zf t429 x10_2).f1))) (ds := []) #[false, false, false, false, false, false, false, false, false] (by kernel_rfl) rfl rfl ⟨(zh BK424.out 0).trans rfl, (zh BK424.out 1).trans rfl, (zh BK424.out 2).trans rfl, (zh BK424.out 3).trans rfl, hx435_0, hx435_1⟩ (fun hHeld => ?_); refine zib spec_DecodeNear.tab10 spec_DecodeNear.bits10 (fun HT_ HW_ => ?_)
          generalize wr.drew = w36 at HO_8 HO_9 BK423 BK424 BK425 HB hx435_0 hx435_1 hHeld ⊢
          refine zva (i := 0) (N := some 34) (v := ?_) (a' := ?_) #[true, false, false, false, false, false, false, false, false] rfl rfl (zia HT_.out (by kernel_rfl)) (fun _ _ _ h => h) (Or.inl ⟨by rfl, ?_⟩) ?_ ?_
          rotate_left
          ·intro w'
           go_simp
           with_reducible rfl
          rotate_left
          ·simp only [Act.put, List.setIfInBounds_toArray, List.set_cons_zero, List.set_cons_succ, zda, zfa]
           rfl
          refine zva (i := 1) (N := some 35) (v := ?_) (a' := ?_) #[true, true, false, false, false, false, false, false, false] rfl rfl (zia HT_.out (by kernel_rfl)) (fun _ _ _ h => h) (Or.inl ⟨by rfl, ?_⟩) ?_ ?_
          rotate_left
          ·intro w'
           go_simp
           with_reducible rfl
          rotate_left
          ·simp only [Act.put, List.setIfInBounds_toArray, List.set_cons_zero, List.set_cons_succ, zda, zfa]
           rfl
          refine zva (i := 2) (N := some 36) (v := ?_) (a' := ?_) #[true, true, true, false, false, false, false, false, false] rfl rfl (zia HT_.out (by kernel_rfl)) (fun _ _ _ h => h) (Or.inl ⟨by rfl, ?_⟩) ?_ ?_
          rotate_left
          ·intro w'
           go_simp
           with_reducible rfl
          rotate_left
          ·simp only [Act.put, List.setIfInBounds_toArray, List.set_cons_zero, List.set_cons_succ, zda, zfa]
           rfl
          refine zva (i := 7) (N := some 41) (v := ?_) (a' := ?_) #[true, true, true, false, false, false, false, true, false] rfl rfl (zia HT_.out (by kernel_rfl)) (fun _ _ _ h => h) (Or.inl ⟨by rfl, ?_⟩) ?_ ?_
          rotate_left
          ·intro w'
           go_simp
           with_reducible rfl
          rotate_left
          ·simp only [Act.put, List.setIfInBounds_toArray, List.set_cons_zero, List.set_cons_succ, zda, zfa]
           rfl
          refine take_ (i := 3) (N := some 37) (v := ?_) (a' := ?_) #[true, true, true, true, false, false, false, true, false] rfl rfl (zsa HT_.out HW_.out (by kernel_rfl)) (fun _ _ _ h => h) (Or.inl ⟨by rfl, ?_⟩) hHeld ?_ ?_
          rotate_left
          ·rintro w' ⟨s0, s1, s2, s3, s4, s5⟩
           go_simp
           with_reducible rfl
          rotate_left
          ·simp only [Act.put, List.setIfInBounds_toArray, List.set_cons_zero, List.set_cons_succ, zda, zfa]
           rfl
          refine take_ (i := 5) (N := some 39) (v := ?_) (a' := ?_) #[true, true, true, true, false, true, false, true, false] rfl rfl (zsa HT_.out HW_.out (by kernel_rfl)) (fun _ _ _ h => h) (Or.inl ⟨by rfl, ?_⟩) hHeld ?_ ?_
          rotate_left
          ·rintro w' ⟨s0, s1, s2, s3, s4, s5⟩
           go_simp
           with_reducible rfl
          rotate_left
          ·simp only [Act.put, List.setIfInBounds_toArray, List.set_cons_zero, List.set_cons_succ, zda, zfa]
           rfl
          refine one_ (i := 4) (N := some 38) #[true, true, true, true, true, true, false, true, false] rfl rfl (zgb HT_.out (by kernel_rfl)) (by decide) (fun K hK => ?_)
          refine zxb Try.func77 (by kernel_rfl) rfl #[.pointer (some ⟨gb423, 0, none⟩), .agg #[.int .i8 ((zf t429 x10_2).f0), .bool ((zf t429 x10_2).f1)]] (by rfl) rfl rfl (by (try simp only [List.map_toArray, List.map_cons, List.map_nil]); first | done | rfl | (simp only [List.length_drop, List.length_take]; rfl)) ?_
          with_reducible refine (spec_l04Seen.calls k2 gb423 x424000_2 x424001_2 A0_2 c0_2 l0_2 ((zf t429 x10_2).f0) ((zf t429 x10_2).f1) t436 t437 t438 t439 _ ?side1 ?side2 ?side3 A31.out).mono ?_
          (case side1 => exact uK BK423)
          (case side2 => exact uC HR0_2 HB)
          (case side3 => exact HC0_2.out)
          rintro e w37 ⟨rfl, hb⟩
          have HS4_ := (hb.cell (World.block_lt_of_cell? _ _ (hHeld.2.2.2.2.1))).trans (hHeld.2.2.2.2.1)
          have HS5_ := (hb.cell (World.block_lt_of_cell? _ _ (hHeld.2.2.2.2.2))).trans (hHeld.2.2.2.2.2)
          refine ⟨_, rfl, ?_⟩
          have n0_ := dR HO_8 hb
          have n1_ := dR HO_9 hb
          have n2_ := dK BK423 hb
          have n3_ := dK BK424 hb
          have n4_ := dK BK425 hb
          have n5_ := za.mk (ze sB hb)
          clear HO_8
          clear HO_9
          clear BK423
          clear BK424
          clear BK425
          clear HB
          have HO_8 := n0_
          have HO_9 := n1_
          have BK423 := n2_
          have BK424 := n3_
          have BK425 := n4_
          have HB := n5_
          clear n0_ n1_ n2_ n3_ n4_ n5_
          (try clear hb)
          (try clear hb2)
          (try clear hk)
          (try clear hi)
          refine hK.out _ _ ⟨(zh BK424.out 0).trans rfl, (zh BK424.out 1).trans rfl, (zh BK424.out 2).trans rfl, (zh BK424.out 3).trans rfl, HS4_, HS5_⟩ (fun hHeld => ?_)
          clear hK K
          refine zub (a' := ?_) ?_ ?_
          rotate_left
          ·show Act.put _ (some 38) _ = _
           simp only [Act.put, List.setIfInBounds_toArray, List.set_cons_zero, List.set_cons_succ, zda, zfa]
           rfl
          refine one_ (i := 6) (N := some 40) #[true, true, true, true, true, true, true, true, false] rfl rfl (zgb HT_.out (by kernel_rfl)) (by decide) (fun K hK => ?_)
          refine zxb Try.func83 (by kernel_rfl) rfl #[.agg #[.int .i8 t436, .int .i8 t437, .int .i8 t438, .int .i8 t439], .agg #[.int .i8 a1_0, .int .i8 a1_1, .int .i8 a1_2, .int .i8 a1_3]] (by rfl) rfl rfl (by (try simp only [List.map_toArray, List.map_cons, List.map_nil]); first | done | rfl | (simp only [List.length_drop, List.length_take]; rfl)) ?_
          with_reducible refine (spec_l04Distance.calls k2 t436 t437 t438 t439 a1_0 a1_1 a1_2 a1_3 t440 _ A32.out).mono ?_
          rintro e w38 ⟨rfl, hb⟩
          have HS4_ := (hb.cell (World.block_lt_of_cell? _ _ (hHeld.2.2.2.2.1))).trans (hHeld.2.2.2.2.1)
          have HS5_ := (hb.cell (World.block_lt_of_cell? _ _ (hHeld.2.2.2.2.2))).trans (hHeld.2.2.2.2.2)
          refine ⟨_, rfl, ?_⟩
          have n0_ := dR HO_8 hb
          have n1_ := dR HO_9 hb
          have n2_ := dK BK423 hb
          have n3_ := dK BK424 hb
          have n4_ := dK BK425 hb
          have n5_ := za.mk (ze sB hb)
          clear HO_8
          clear HO_9
          clear BK423
          clear BK424
          clear BK425
          clear HB
          have HO_8 := n0_
          have HO_9 := n1_
          have BK423 := n2_
          have BK424 := n3_
          have BK425 := n4_
          have HB := n5_
          clear n0_ n1_ n2_ n3_ n4_ n5_
          (try clear hb)
          (try clear hb2)
          (try clear hk)
          (try clear hi)
          refine hK.out _ _ ⟨(zh BK424.out 0).trans rfl, (zh BK424.out 1).trans rfl, (zh BK424.out 2).trans rfl, (zh BK424.out 3).trans rfl, HS4_, HS5_⟩ (fun hHeld => ?_)
          clear hK K
          refine zub (a' := ?_) ?_ ?_
          rotate_left
          ·show Act.put _ (some 40) _ = _
           simp only [Act.put, List.setIfInBounds_toArray, List.set_cons_zero, List.set_cons_succ, zda, zfa]
           rfl
          refine zva (i := 8) (N := some 42) (v := ?_) (a' := ?_) #[true, true, true, true, true, true, true, true, true] rfl rfl (zia HT_.out (by kernel_rfl)) (fun _ _ _ h => h) (Or.inl ⟨by rfl, ?_⟩) ?_ ?_
          rotate_left
          ·intro w'
           go_simp
           with_reducible rfl
          rotate_left
          ·simp only [Act.put, List.setIfInBounds_toArray, List.set_cons_zero, List.set_cons_succ, zda, zfa]
           rfl
          refine zjd (ztb HT_.out (by kernel_rfl)) ?_
          have p441 : 0 ≤ (x10_2 : Int) := of_decide_eq_true (by first | (with_reducible assumption) | assumption)
          have q441 : x10_2 < (t429.length : Int) := of_decide_eq_true (by first | (with_reducible assumption) | assumption)
          obtain ⟨ad441, e441, hx441_0, hx441_1⟩ := zsb (Kd.R_reads' HO_8.out).2.2 x10_2 p441 q441
          obtain rfl : ad435 = ad441 := (by injection e441)
          replace p441 := eq_true p441
          replace q441 := eq_true q441
          try go_wp2_with (first | ((with_reducible refine zga (b := .append) (xs := #[.tmp 43, .tmp 48]) rfl ?_); at_builtin; refine Kd.R_append k38 (w0 := w) w.heap.size rfl (.tmp 43) (.tmp 48) 55 38 (.agg #[(.int .i8 0), (.bool false)]) 2 rfl Try.underlying55 zyb rfl (by decide) (by omega) u9 x9_2 (⟨(zf t429 x10_2).f0, (zf t429 x10_2).f1⟩ : S38) [.int .i8 ((zf t429 x10_2).f0), .bool ((zf t429 x10_2).f1)] (fun k_ => some k_ ≠ (.slice (some ad435) t429.length co35 : Value).ownBlock ∧ k_ ≠ gb425) (fun _ => False) rfl rfl ?aP (fun _ hk => hk.elim) ?aF ?aO ?aB ?aS ?aL ?_; (case aP => exact znb _ _ _ (⟨(zf t429 x10_2).f0, (zf t429 x10_2).f1⟩ : S38)); (case aB => exact sB); (case aF => exact (fun k_ hk => ⟨Kd.fresh' (Kd.R_lt (uR HO_8)) k_ hk, Kd.freshB (g := gb425) (o := .cells #[.int .i8 0, .bool false] 38 (0, 0)) (uK BK425) k_ hk⟩)); (case aO => exact (uR HO_9)); (case aS => exact (zv sB)); (case aL => have := LMc34.out; omega); intro v443 w39 ho hb hg hat; rw [← Ny442.out] at ho; have HO444 := za.mk ho; replace HO_8 := za.mk (Kd.R_after (ok := (fun k_ => k_ ≠ gb425)) (by (with_reducible repeat (first | apply Kd.R_alloc | apply Kd.R_drewN | apply Kd.R_drew)); exact Kd.R_mono HO_8.out (fun _ hk => ⟨hk.2, hk.1⟩)) hg hat); replace BK423 := za.mk (zq (g := gb423) (o := .cells #[.int .i8 x424000_2, .int .i8 x424001_2, .slice A0_2 l0_2.length c0_2] 28 (0, 0)) (uK BK423) hg (Kd.R_ne HO_9.out BK423.out (by decide))); replace BK424 := za.mk (zq (g := gb424) (o := .cells #[.int .i8 a1_0, .int .i8 a1_1, .int .i8 a1_2, .int .i8 a1_3] 43 (0, 0)) (uK BK424) hg (Kd.R_ne HO_9.out BK424.out (by decide))); replace BK425 := za.mk (zq (g := gb425) (o := .cells #[.int .i8 0, .bool false] 38 (0, 0)) (uK BK425) hg (Kd.R_away HO_9.out (fun _ hk => hk.2))); replace HB := za.mk hb; clear HO_9; clear ho hb hg hat))
          go_roundg k2
          case measure => have := HJ3.out; have := HK2.out; omega
          case rel => exact ⟨(y442), (wrap64 (x10_2 + 1)), (x424000_2), (x424001_2), (by first | rfl | (simp; done) | (simp [*]; done)), H', ⟨by have := HJ3.out; have := HK2.out; omega⟩, ⟨by (with_reducible repeat (first | apply Kd.R_alloc | apply Kd.R_drewN | apply Kd.R_drew)); exact Kd.R_mono HO_8.out (fun _ hk => ⟨hk.2, hk.1⟩)⟩, ⟨uR HO444⟩, ⟨uK BK423⟩, ⟨uK BK424⟩, ⟨uK BK425⟩, ⟨sB⟩⟩
         rw [if_neg c34] at H
         exact absurd H (by simp)
        rw [if_neg c33] at H
        have c33b0 : decide (t440 ≤ a2) = false := decide_eq_false c33
        clear c33
        have H' := za.mk H
        clear H
        obtain ⟨Ao40, co40, eo40⟩ := Kd.R_slice HO_8.out
        subst eo40
        try go_wp2
        have n0_ := za.mk (Kd.R_drew HO_8.out)
        have n1_ := za.mk (Kd.R_drew HO_9.out)
        have n2_ := za.mk (zd BK423.out)
        have n3_ := za.mk (zd BK424.out)
        have n4_ := za.mk (zd BK425.out)
        have n5_ := za.mk (zt HB.out)
        clear HO_8
        clear HO_9
        clear BK423
        clear BK424
        clear BK425
        clear HB
        have HO_8 := n0_
        have HO_9 := n1_
        have BK423 := n2_
        have BK424 := n3_
        have BK425 := n4_
        have HB := n5_
        clear n0_ n1_ n2_ n3_ n4_ n5_
        have p435 : 0 ≤ (x10_2 : Int) := of_decide_eq_true (by first | (with_reducible assumption) | assumption)
        have q435 : x10_2 < (t429.length : Int) := of_decide_eq_true (by first | (with_reducible assumption) | assumption)
        obtain ⟨ad435, e435, hx435_0, hx435_1⟩ := zsb (Kd.R_reads' HO_8.out).2.2 x10_2 p435 q435
        cases e435
        replace p435 := eq_true p435
        replace q435 := eq_true q435
        refine zbc (n := 9) (S := fun w' => w'.cell? ⟨gb424, 0, none⟩ = some (.int .i8 a1_0) ∧ w'.cell? ⟨gb424, 1, none⟩ = some (.int .i8 a1_1) ∧ w'.cell? ⟨gb424, 2, none⟩ = some (.int .i8 a1_2) ∧ w'.cell? ⟨gb424, 3, none⟩ = some (.int .i8 a1_3) ∧ w'.cell? (ad435.add ((x10_2).toNat * 2)) = some (.int .i8 ((zf t429 x10_2).f0)) ∧ w'.cell? ⟨(ad435.add ((x10_2).toNat * 2)).block, (ad435.add ((x10_2).toNat * 2)).off + 1, none⟩ = some (.bool ((zf t429 x10_2).f1))) (ds := []) #[false, false, false, false, false, false, false, false, false] (by kernel_rfl) rfl rfl ⟨(zh BK424.out 0).trans rfl, (zh BK424.out 1).trans rfl, (zh BK424.out 2).trans rfl, (zh BK424.out 3).trans rfl, hx435_0, hx435_1⟩ (fun hHeld => ?_); refine zib spec_DecodeNear.tab10 spec_DecodeNear.bits10 (fun HT_ HW_ => ?_)
        generalize wr.drew = w41 at HO_8 HO_9 BK423 BK424 BK425 HB hx435_0 hx435_1 hHeld ⊢
        refine zva (i := 0) (N := some 34) (v := ?_) (a' := ?_) #[true, false, false, false, false, false, false, false, false] rfl rfl (zia HT_.out (by kernel_rfl)) (fun _ _ _ h => h) (Or.inl ⟨by rfl, ?_⟩) ?_ ?_
        rotate_left
        ·intro w'
         go_simp
         with_reducible rfl
        rotate_left
        ·simp only [Act.put, List.setIfInBounds_toArray, List.set_cons_zero, List.set_cons_succ, zda, zfa]
         rfl
        refine zva (i := 1) (N := some 35) (v := ?_) (a' := ?_) #[true, true, false, false, false, false, false, false, false] rfl rfl (zia HT_.out (by kernel_rfl)) (fun _ _ _ h => h) (Or.inl ⟨by rfl, ?_⟩) ?_ ?_
        rotate_left
        ·intro w'
         go_simp
         with_reducible rfl
        rotate_left
        ·simp only [Act.put, List.setIfInBounds_toArray, List.set_cons_zero, List.set_cons_succ, zda, zfa]
         rfl
        refine zva (i := 2) (N := some 36) (v := ?_) (a' := ?_) #[true, true, true, false, false, false, false, false, false] rfl rfl (zia HT_.out (by kernel_rfl)) (fun _ _ _ h => h) (Or.inl ⟨by rfl, ?_⟩) ?_ ?_
        rotate_left
        ·intro w'
         go_simp
         with_reducible rfl
        rotate_left
        ·simp only [Act.put, List.setIfInBounds_toArray, List.set_cons_zero, List.set_cons_succ, zda, zfa]
         rfl
        refine zva (i := 7) (N := some 41) (v := ?_) (a' := ?_) #[true, true, true, false, false, false, false, true, false] rfl rfl (zia HT_.out (by kernel_rfl)) (fun _ _ _ h => h) (Or.inl ⟨by rfl, ?_⟩) ?_ ?_
        rotate_left
        ·intro w'
         go_simp
         with_reducible rfl
        rotate_left
        ·simp only [Act.put, List.setIfInBounds_toArray, List.set_cons_zero, List.set_cons_succ, zda, zfa]
         rfl
        refine take_ (i := 3) (N := some 37) (v := ?_) (a' := ?_) #[true, true, true, true, false, false, false, true, false] rfl rfl (zsa HT_.out HW_.out (by kernel_rfl)) (fun _ _ _ h => h) (Or.inl ⟨by rfl, ?_⟩) hHeld ?_ ?_
        rotate_left
        ·rintro w' ⟨s0, s1, s2, s3, s4, s5⟩
         go_simp
         with_reducible rfl
        rotate_left
        ·simp only [Act.put, List.setIfInBounds_toArray, List.set_cons_zero, List.set_cons_succ, zda, zfa]
         rfl
        refine take_ (i := 5) (N := some 39) (v := ?_) (a' := ?_) #[true, true, true, true, false, true, false, true, false] rfl rfl (zsa HT_.out HW_.out (by kernel_rfl)) (fun _ _ _ h => h) (Or.inl ⟨by rfl, ?_⟩) hHeld ?_ ?_
        rotate_left
        ·rintro w' ⟨s0, s1, s2, s3, s4, s5⟩
         go_simp
         with_reducible rfl
        rotate_left
        ·simp only [Act.put, List.setIfInBounds_toArray, List.set_cons_zero, List.set_cons_succ, zda, zfa]
         rfl
        refine one_ (i := 4) (N := some 38) #[true, true, true, true, true, true, false, true, false] rfl rfl (zgb HT_.out (by kernel_rfl)) (by decide) (fun K hK => ?_)
        refine zxb Try.func77 (by kernel_rfl) rfl #[.pointer (some ⟨gb423, 0, none⟩), .agg #[.int .i8 ((zf t429 x10_2).f0), .bool ((zf t429 x10_2).f1)]] (by rfl) rfl rfl (by (try simp only [List.map_toArray, List.map_cons, List.map_nil]); first | done | rfl | (simp only [List.length_drop, List.length_take]; rfl)) ?_
        with_reducible refine (spec_l04Seen.calls k2 gb423 x424000_2 x424001_2 A0_2 c0_2 l0_2 ((zf t429 x10_2).f0) ((zf t429 x10_2).f1) t436 t437 t438 t439 _ ?side1 ?side2 ?side3 A31.out).mono ?_
        (case side1 => exact uK BK423)
        (case side2 => exact uC HR0_2 HB)
        (case side3 => exact HC0_2.out)
        rintro e w42 ⟨rfl, hb⟩
        have HS4_ := (hb.cell (World.block_lt_of_cell? _ _ (hHeld.2.2.2.2.1))).trans (hHeld.2.2.2.2.1)
        have HS5_ := (hb.cell (World.block_lt_of_cell? _ _ (hHeld.2.2.2.2.2))).trans (hHeld.2.2.2.2.2)
        refine ⟨_, rfl, ?_⟩
        have n0_ := dR HO_8 hb
        have n1_ := dR HO_9 hb
        have n2_ := dK BK423 hb
        have n3_ := dK BK424 hb
        have n4_ := dK BK425 hb
        have n5_ := za.mk (ze sB hb)
        clear HO_8
        clear HO_9
        clear BK423
        clear BK424
        clear BK425
        clear HB
        have HO_8 := n0_
        have HO_9 := n1_
        have BK423 := n2_
        have BK424 := n3_
        have BK425 := n4_
        have HB := n5_
        clear n0_ n1_ n2_ n3_ n4_ n5_
        (try clear hb)
        (try clear hb2)
        (try clear hk)
        (try clear hi)
        refine hK.out _ _ ⟨(zh BK424.out 0).trans rfl, (zh BK424.out 1).trans rfl, (zh BK424.out 2).trans rfl, (zh BK424.out 3).trans rfl, HS4_, HS5_⟩ (fun hHeld => ?_)
        clear hK K
        refine zub (a' := ?_) ?_ ?_
        rotate_left
        ·show Act.put _ (some 38) _ = _
         simp only [Act.put, List.setIfInBounds_toArray, List.set_cons_zero, List.set_cons_succ, zda, zfa]
         rfl
        refine one_ (i := 6) (N := some 40) #[true, true, true, true, true, true, true, true, false] rfl rfl (zgb HT_.out (by kernel_rfl)) (by decide) (fun K hK => ?_)
        refine zxb Try.func83 (by kernel_rfl) rfl #[.agg #[.int .i8 t436, .int .i8 t437, .int .i8 t438, .int .i8 t439], .agg #[.int .i8 a1_0, .int .i8 a1_1, .int .i8 a1_2, .int .i8 a1_3]] (by rfl) rfl rfl (by (try simp only [List.map_toArray, List.map_cons, List.map_nil]); first | done | rfl | (simp only [List.length_drop, List.length_take]; rfl)) ?_
        with_reducible refine (spec_l04Distance.calls k2 t436 t437 t438 t439 a1_0 a1_1 a1_2 a1_3 t440 _ A32.out).mono ?_
        rintro e w43 ⟨rfl, hb⟩
        have HS4_ := (hb.cell (World.block_lt_of_cell? _ _ (hHeld.2.2.2.2.1))).trans (hHeld.2.2.2.2.1)
        have HS5_ := (hb.cell (World.block_lt_of_cell? _ _ (hHeld.2.2.2.2.2))).trans (hHeld.2.2.2.2.2)
        refine ⟨_, rfl, ?_⟩
        have n0_ := dR HO_8 hb
        have n1_ := dR HO_9 hb
        have n2_ := dK BK423 hb
        have n3_ := dK BK424 hb
        have n4_ := dK BK425 hb
        have n5_ := za.mk (ze sB hb)
        clear HO_8
        clear HO_9
        clear BK423
        clear BK424
        clear BK425
        clear HB
        have HO_8 := n0_
        have HO_9 := n1_
        have BK423 := n2_
        have BK424 := n3_
        have BK425 := n4_
        have HB := n5_
        clear n0_ n1_ n2_ n3_ n4_ n5_
        (try clear hb)
        (try clear hb2)
        (try clear hk)
        (try clear hi)
        refine hK.out _ _ ⟨(zh BK424.out 0).trans rfl, (zh BK424.out 1).trans rfl, (zh BK424.out 2).trans rfl, (zh BK424.out 3).trans rfl, HS4_, HS5_⟩ (fun hHeld => ?_)
        clear hK K
        refine zub (a' := ?_) ?_ ?_
        rotate_left
        ·show Act.put _ (some 40) _ = _
         simp only [Act.put, List.setIfInBounds_toArray, List.set_cons_zero, List.set_cons_succ, zda, zfa]
         rfl
        refine zva (i := 8) (N := some 42) (v := ?_) (a' := ?_) #[true, true, true, true, true, true, true, true, true] rfl rfl (zia HT_.out (by kernel_rfl)) (fun _ _ _ h => h) (Or.inl ⟨by rfl, ?_⟩) ?_ ?_
        rotate_left
        ·intro w'
         go_simp
         with_reducible rfl
        rotate_left
        ·simp only [Act.put, List.setIfInBounds_toArray, List.set_cons_zero, List.set_cons_succ, zda, zfa]
         rfl
        refine zjd (ztb HT_.out (by kernel_rfl)) ?_
        try go_wp2
        go_roundg k2
        case measure => have := HJ3.out; have := HK2.out; omega
        case rel => exact ⟨(x9_2), (wrap64 (x10_2 + 1)), (x424000_2), (x424001_2), (by first | rfl | (simp; done) | (simp [*]; done)), H', ⟨by have := HJ3.out; have := HK2.out; omega⟩, ⟨uR HO_8⟩, ⟨uR HO_9⟩, ⟨uK BK423⟩, ⟨uK BK424⟩, ⟨uK BK425⟩, ⟨sB⟩⟩
       rw [if_neg c30] at H
       exact absurd H (by simp)
      rw [if_neg c29] at H
      have c29b0 : decide (x10_2 < (t429.length : Int)) = false := decide_eq_false c29
      clear c29
      by_cases c44 : (x9_2.length : Int) = 0
      ·rw [if_pos c44] at H
       have c44b0 : ((x9_2.length : Int) == 0) = true := beq_iff_eq.mpr c44
       have c44b1 : ((x9_2.length : Int) != 0) = false := bne_eq_false_iff_eq.mpr c44
       clear c44
       simp only [Option.some.injEq, Prod.mk.injEq] at H
       obtain ⟨rfl, rfl, rfl⟩ := H
       obtain ⟨Ao45, co45, eo45⟩ := Kd.R_slice HO_8.out
       subst eo45
       obtain ⟨Ao46, co46, eo46⟩ := Kd.R_slice HO_9.out
       subst eo46
       have hnb47 := NB425_423.out
       have hnc47 := NB423_425.out
       have hnb48 := NB425_424.out
       have hnc48 := NB424_425.out
       obtain ⟨hcz49_0, hcz49_1⟩ := xc2 BK425
       obtain ⟨hfz49_0, hfz49_1⟩ := xf2 BK425
       go_wp2
       refine bodyPost_ret (zoa rfl _ _ gb425 38 #[.int .i8 0, .bool false] (0, 0) _ rfl (by (with_reducible repeat (first | refine zc ?_ _ | refine zd ?_ | refine zb ?_ _)); refine zl (cs := #[.int .i8 0, .bool false]) ?_ 1 _ rfl; (with_reducible repeat (first | refine zc ?_ _ | refine zd ?_ | refine zb ?_ _)); refine zl (cs := #[.int .i8 0, .bool false]) ?_ 0 _ rfl; (with_reducible repeat (first | refine zc ?_ _ | refine zd ?_ | refine zb ?_ _)); exact BK425.out) Try.underlying38 rfl (by kernel_rfl)) rfl ?_
       exact ⟨by first | rfl | (simp [zk, zj] <;> rfl) | (simp [*, zk, zj] <;> rfl), sB⟩
      rw [if_neg c44] at H
      have c44b0 : ((x9_2.length : Int) == 0) = false := beq_eq_false_iff_ne.mpr c44
      have c44b1 : ((x9_2.length : Int) != 0) = true := bne_iff_ne.mpr c44
      have c44b2 : ¬ (x9_2 = []) := fun h_ => c44 (by rw [h_]; rfl)
      by_cases c50 : (x9_2.length : Int) > 1
      ·rw [if_pos c50] at H
       have c50b0 : decide (1 < (x9_2.length : Int)) = true := decide_eq_true c50
       have c50b1 : decide (1 < x9_2.length) = true := decide_eq_true (by omega)
       clear c50
       simp only [Option.some.injEq, Prod.mk.injEq] at H
       obtain ⟨rfl, rfl, rfl⟩ := H
       obtain ⟨Ao51, co51, eo51⟩ := Kd.R_slice HO_8.out
       subst eo51
       obtain ⟨Ao52, co52, eo52⟩ := Kd.R_slice HO_9.out
       subst eo52
       have hnb53 := NB425_423.out
       have hnc53 := NB423_425.out
       have hnb54 := NB425_424.out
       have hnc54 := NB424_425.out
       obtain ⟨hcz55_0, hcz55_1⟩ := xc2 BK425
       obtain ⟨hfz55_0, hfz55_1⟩ := xf2 BK425
       go_wp2
       refine bodyPost_ret (zoa rfl _ _ gb425 38 #[.int .i8 0, .bool false] (0, 0) _ rfl (by (with_reducible repeat (first | refine zc ?_ _ | refine zd ?_ | refine zb ?_ _)); refine zl (cs := #[.int .i8 0, .bool false]) ?_ 1 _ rfl; (with_reducible repeat (first | refine zc ?_ _ | refine zd ?_ | refine zb ?_ _)); refine zl (cs := #[.int .i8 0, .bool false]) ?_ 0 _ rfl; (with_reducible repeat (first | refine zc ?_ _ | refine zd ?_ | refine zb ?_ _)); exact BK425.out) Try.underlying38 rfl (by kernel_rfl)) rfl ?_
       exact ⟨by first | rfl | (simp [zk, zj] <;> rfl) | (simp [*, zk, zj] <;> rfl), sB⟩
      rw [if_neg c50] at H
      have c50b0 : decide (1 < (x9_2.length : Int)) = false := decide_eq_false c50
      have c50b1 : decide (1 < x9_2.length) = false := decide_eq_false (by omega)
      clear c50
      by_cases c56 : 0 < (x9_2.length : Int)
      ·rw [if_pos c56] at H
       have c56b0 : decide (0 < (x9_2.length : Int)) = true := decide_eq_true c56
       have c56b1 : decide (0 < x9_2.length) = true := decide_eq_true (by omega)
       clear c56
       simp only [Option.some.injEq, Prod.mk.injEq] at H
       obtain ⟨rfl, rfl, rfl⟩ := H
       obtain ⟨Ao57, co57, eo57⟩ := Kd.R_slice HO_8.out
       subst eo57
       obtain ⟨Ao58, co58, eo58⟩ := Kd.R_slice HO_9.out
       subst eo58
       have p445 : 0 ≤ (0 : Int) := (by omega)
       have q445 : 0 < (x9_2.length : Int) := of_decide_eq_true (by first | (with_reducible assumption) | assumption)
       obtain ⟨ad445, e445, hx445_0, hx445_1⟩ := zsb (Kd.R_reads' HO_9.out).2.2 0 p445 q445
       cases e445
       have qi445 : (0 < x9_2.length) = True := eq_true (by omega)
       (try rw [show ((0 : Int)).toNat = 0 from rfl] at hx445_0)
       (try rw [show 0 * 2 = 0 from rfl] at hx445_0)
       (try rw [Addr.add_zero'] at hx445_0)
       (try rw [show ((0 : Int)).toNat = 0 from rfl] at hx445_1)
       (try rw [show 0 * 2 = 0 from rfl] at hx445_1)
       (try rw [Addr.add_zero'] at hx445_1)
       replace p445 := eq_true p445
       replace q445 := eq_true q445
       have hnb59 := NB425_423.out
       have hnc59 := NB423_425.out
       have hnb60 := NB425_424.out
       have hnc60 := NB424_425.out
       obtain ⟨hcz61_0, hcz61_1⟩ := xc2 BK425
       obtain ⟨hfz61_0, hfz61_1⟩ := xf2 BK425
       go_wp2
       refine bodyPost_ret (zoa rfl _ _ gb425 38 #[.int .i8 ((zf x9_2 0).f0), .bool ((zf x9_2 0).f1)] (0, 0) _ rfl (by (with_reducible repeat (first | refine zc ?_ _ | refine zd ?_ | refine zb ?_ _)); refine zl (cs := #[.int .i8 ((zf x9_2 0).f0), .bool false]) ?_ 1 _ rfl; (with_reducible repeat (first | refine zc ?_ _ | refine zd ?_ | refine zb ?_ _)); refine zl (cs := #[.int .i8 0, .bool false]) ?_ 0 _ rfl; (with_reducible repeat (first | refine zc ?_ _ | refine zd ?_ | refine zb ?_ _)); exact BK425.out) Try.underlying38 rfl (by kernel_rfl)) rfl ?_
       exact ⟨by first | rfl | (simp [zk, zj] <;> rfl) | (simp [*, zk, zj] <;> rfl), sB⟩
      rw [if_neg c56] at H
      exact absurd H (by simp)
   replace c24 := Bool.eq_false_iff.mpr c24
   subst c24
   have H1 : (some (0, false, 2)) = some (r1, r2, r3) := by rw [if_neg (show ¬ (false = true) by decide)] at H; exact H
   clear H
   have H := H1
   clear H1
   simp only [Option.some.injEq, Prod.mk.injEq] at H
   obtain ⟨rfl, rfl, rfl⟩ := H
   go_wp2_with (first | ((with_reducible refine zo (f := 51) rfl ?_); refine gz (some 23) Try.func51 #[.int .i64 a2, .int .i64 0, .int .i64 4] rfl rfl ?_; (with_reducible refine (spec_l00In.calls a2 0 4 false _ A23.out).mono ?_); rintro e w' ⟨rfl, ⟨nd, rfl⟩⟩; refine ⟨_, rfl, ?_⟩; (try (rw [zua wc]; generalize hq_ : World.drewN wc _ = wc; have n0_ : za (wc.heap[gb423]? = some (.cells #[.int .i8 x424000_3, .int .i8 x424001_3, .slice A0_2 l0_2.length c0_2] 28 (0, 0))) := ⟨by rw [← hq_]; exact (uK BK423)⟩; have n1_ : za (wc.heap[gb424]? = some (.cells #[.int .i8 a1_0, .int .i8 a1_1, .int .i8 a1_2, .int .i8 a1_3] 43 (0, 0))) := ⟨by rw [← hq_]; exact (uK BK424)⟩; have n2_ : za (wc.heap[gb425]? = some (.cells #[.int .i8 0, .bool false] 38 (0, 0))) := ⟨by rw [← hq_]; exact (uK BK425)⟩; have n3_ : za (Below w.heap.size w wc) := ⟨by rw [← hq_]; exact sB⟩; clear BK423 BK424 BK425 HB hq_; have BK423 := n0_; have BK424 := n1_; have BK425 := n2_; have HB := n3_; clear n0_ n1_ n2_ n3_)); have hnb62 := NB425_423.out; have hnc62 := NB423_425.out; have hnb63 := NB425_424.out; have hnc63 := NB424_425.out; obtain ⟨hcz64_0, hcz64_1⟩ := xc2 BK425; obtain ⟨hfz64_0, hfz64_1⟩ := xf2 BK425))
   refine bodyPost_ret (zoa rfl _ _ gb425 38 #[.int .i8 0, .bool false] (0, 0) _ rfl (by (with_reducible repeat (first | refine zc ?_ _ | refine zd ?_ | refine zb ?_ _)); refine zl (cs := #[.int .i8 0, .bool false]) ?_ 1 _ rfl; (with_reducible repeat (first | refine zc ?_ _ | refine zd ?_ | refine zb ?_ _)); refine zl (cs := #[.int .i8 0, .bool false]) ?_ 0 _ rfl; (with_reducible repeat (first | refine zc ?_ _ | refine zd ?_ | refine zb ?_ _)); exact BK425.out) Try.underlying38 rfl (by kernel_rfl)) rfl ?_
   exact ⟨by first | rfl | (simp [zk, zj] <;> rfl) | (simp [*, zk, zj] <;> rfl), sB⟩

end Go.Proofs.Ytmfbcklaomigaaa.N
