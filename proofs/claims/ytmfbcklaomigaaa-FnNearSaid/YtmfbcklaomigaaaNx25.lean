-- Written by wip/tools/myprint.py, a program of this session, by way of the kit's print.
import Derived.Test.YtmfbcklaomigaaaNx0
import Derived.Test.YtmfbcklaomigaaaNx8
import Derived.Test.YtmfbcklaomigaaaNx9
import Derived.Test.YtmfbcklaomigaaaNx11
import Derived.Test.YtmfbcklaomigaaaNx24
import Derived.Test.YtmfbcklaomigaaaLPrN
import Derived.Test.YtmfbcklaomigaaaLDelwN
namespace Go.Proofs.Ytmfbcklaomigaaa.N
open Go.RowKit Go.Proofs.YtmfbcklaomigaaaW.PrintWords Go.Proofs.YtmfbcklaomigaaaW.PrintLast Go.Proofs.YtmfbcklaomigaaaW.PrintMore
attribute [local go_sem] zqa zpa zwa zxa zla zka zra zta   -- for this text's walks alone
set_option linter.unusedVariables false
set_option linter.unusedSimpArgs false

theorem dX {W W2 W0 : World} {g : Nat} {o : Obj} (hb : Below W.heap.size W W2) (h : za (W0.heap[g]? = some o)) (u : Below W0.heap.size W0 W := by ((with_reducible repeat (first | exact Below.refl _ _ | apply zw | apply zp | apply zt)); first | done | exact ⟨rfl, rfl, rfl, Nat.le_refl _, fun _ _ => rfl⟩)) : za (W.heap[g]? = some o) := ⟨zr h.out u⟩
theorem xC {α : Type} {d : Kd α} {W W2 w : World} {A : Option Addr} {n : Nat} {xs : List α} (hb : Below W.heap.size W W2) (h : za (Kd.C d w A n xs)) (k : Below w.heap.size w W) : za (Kd.C d W A n xs) := ⟨Kd.C_below h.out k⟩
theorem xB {W W2 w : World} (hb : Below W.heap.size W W2) (k : Below w.heap.size w W) : za (Below w.heap.size w W) := ⟨k⟩
/-! ### impl_DecodeNear: function 30 -/
def impl_DecodeNear.j0 : Nat → Bool → Int → Int → List (S43) → Int → Int → Int → Int → Int → Option (Int × Bool × Int)
 | 0, _, _, _, _, _, _, _, _, _ => none
 | k + 1, x9, x410000, x410001, x410002, x411000, x411001, x411002, x411003, x412000 => if x9 = true then (some (0, false, 1)) else ((impl_within.f x412000 0 4).bind fun t415 => (if t415 = true then ((impl_Fixed_cases.f k x410000 x410001 x410002).bind fun t416 => ((impl_Case_84_85.f k t416 x410000 x410001 x410002 x411000 x411001 x411002 x411003 x412000).bind fun t419 => (if (t419.length : Int) = 0 then (some (0, false, 6)) else (if (t419.length : Int) = 1 then (if 0 < (t419.length : Int) then (some ((zf t419 0).f0, (zf t419 0).f1, 0)) else (none)) else (some (0, false, 8)))))) else (some (0, false, 2))))
def impl_DecodeNear.f (k : Nat) (a0_0 : Int) (a0_1 : Int) (l0_2 : List (S43)) (a1_0 : Int) (a1_1 : Int) (a1_2 : Int) (a1_3 : Int) (a2 : Int) : Option (Int × Bool × Int) := (impl_ValidFixed.f k a0_0 a0_1 l0_2).bind fun t413 => (if t413 = true then ((impl_ValidWord.f k (wrap64 (a0_0)) a1_0 a1_1 a1_2 a1_3).bind fun t414 => (impl_DecodeNear.j0 k (!t414) a0_0 a0_1 l0_2 a1_0 a1_1 a1_2 a1_3 a2)) else (impl_DecodeNear.j0 k true a0_0 a0_1 l0_2 a1_0 a1_1 a1_2 a1_3 a2))
set_option maxHeartbeats 8000000 in
set_option maxRecDepth 100000 in
theorem impl_DecodeNear.calls (k : Nat) (a0_0 : Int) (a0_1 : Int) (A0_2 : Option Addr) (c0_2 : Nat) (l0_2 : List (S43)) (a1_0 : Int) (a1_1 : Int) (a1_2 : Int) (a1_3 : Int) (a2 : Int) (r1 : Int) (r2 : Bool) (r3 : Int) (w : World) (hr0_2 : Kd.C k43 w A0_2 l0_2.length l0_2) (hc0_2 : l0_2.length ≤ c0_2) (h : impl_DecodeNear.f k a0_0 a0_1 l0_2 a1_0 a1_1 a1_2 a1_3 a2 = some (r1, r2, r3)) :
  Calls Try.prog 30 #[.agg #[.int .i8 a0_0, .int .i8 a0_1, .slice A0_2 l0_2.length c0_2], .agg #[.int .i8 a1_0, .int .i8 a1_1, .int .i8 a1_2, .int .i8 a1_3], .int .i64 a2] w fun e w' => e = .returned (.tuple #[.agg #[.int .i8 r1, .bool r2], .int .i64 r3]) ∧ Below w.heap.size w w' := by
 have hu28 := Try.underlying28
 have hu43 := Try.underlying43
 have hu38 := Try.underlying38
 have HR0_2 := za.mk hr0_2
 have HC0_2 := za.mk hc0_2
 clear hr0_2 hc0_2
 have HB := za.mk (Below.refl w.heap.size w)
 have H : ((impl_ValidFixed.f k a0_0 a0_1 l0_2).bind fun t413 => (if t413 = true then ((impl_ValidWord.f k (wrap64 (a0_0)) a1_0 a1_1 a1_2 a1_3).bind fun t414 => (impl_DecodeNear.j0 k (!t414) a0_0 a0_1 l0_2 a1_0 a1_1 a1_2 a1_3 a2)) else (impl_DecodeNear.j0 k true a0_0 a0_1 l0_2 a1_0 a1_1 a1_2 a1_3 a2))) = some (r1, r2, r3) := h
 clear h
 have HC4 := za.mk H
 clear H
 go_enter Try.func30, Try.ntmps30
 go_upto_region 1 with (first | ((with_reducible refine zn (N := 3) rfl ?_); refine bx (N := 3) #[.int .i8 a0_0, .int .i8 a0_1, .slice A0_2 l0_2.length c0_2] 28 rfl ?_; intro gb409 hg w5 hbox hb; have BK409 := za.mk hbox; have GW409 := gB hg; have GE409 := GW409; replace HB := za.mk (ze sB hb); clear hb hbox hg) | ((with_reducible refine zn (N := 4) rfl ?_); refine bx (N := 4) #[.int .i8 a1_0, .int .i8 a1_1, .int .i8 a1_2, .int .i8 a1_3] 43 rfl ?_; intro gb410 hg w6 hbox hb; have BK410 := za.mk hbox; have GW410 := gB hg; have GE410 := GW410; have NB409_410 := nK hg BK409; have NB410_409 := za.mk NB409_410.out.symm; replace BK409 := dK BK409 hb; replace HB := za.mk (ze sB hb); clear hb hbox hg) | ((with_reducible refine zn (N := 5) rfl ?_); refine bx (N := 5) #[.int .i64 a2] 2 rfl ?_; intro gb411 hg w7 hbox hb; have BK411 := za.mk hbox; have GW411 := gB hg; have GE411 := GW411; have NB409_411 := nK hg BK409; have NB411_409 := za.mk NB409_411.out.symm; have NB410_411 := nK hg BK410; have NB411_410 := za.mk NB410_411.out.symm; replace BK409 := dK BK409 hb; replace BK410 := dK BK410 hb; replace HB := za.mk (ze sB hb); clear hb hbox hg) | ((with_reducible refine zn (N := 6) rfl ?_); refine bx (N := 6) #[.int .i8 0, .bool false] 38 rfl ?_; intro gb412 hg w8 hbox hb; have BK412 := za.mk hbox; have GW412 := gB hg; have GE412 := GW412; have NB409_412 := nK hg BK409; have NB412_409 := za.mk NB409_412.out.symm; have NB410_412 := nK hg BK410; have NB412_410 := za.mk NB410_412.out.symm; have NB411_412 := nK hg BK411; have NB412_411 := za.mk NB411_412.out.symm; replace BK409 := dK BK409 hb; replace BK410 := dK BK410 hb; replace BK411 := dK BK411 hb; replace HB := za.mk (ze sB hb); clear hb hbox hg))
 (try simp only [Act.put, List.setIfInBounds_toArray, List.set_cons_zero, List.set_cons_succ])
 go_cut [9] (fun v9 wc => ∃ (kq : Nat) (x9_3 : Bool), v9 = .bool x9_3 ∧ za (impl_DecodeNear.j0 kq x9_3 a0_0 a0_1 l0_2 a1_0 a1_1 a1_2 a1_3 a2 = some (r1, r2, r3)) ∧ za (kq ≤ k) ∧ za (wc.heap[gb409]? = some (.cells #[.int .i8 a0_0, .int .i8 a0_1, (.slice A0_2 l0_2.length c0_2)] 28 (0, 0))) ∧ za (wc.heap[gb410]? = some (.cells #[.int .i8 a1_0, .int .i8 a1_1, .int .i8 a1_2, .int .i8 a1_3] 43 (0, 0))) ∧ za (wc.heap[gb411]? = some (.cells #[.int .i64 a2] 2 (0, 0))) ∧ za (wc.heap[gb412]? = some (.cells #[.int .i8 0, .bool false] 38 (0, 0))) ∧ za (Below w.heap.size w wc))
 case first =>
  have H := HC4.out
  clear HC4
  replace H := Option.bind_eq_some_iff.mp H
  obtain ⟨t413, A90, H⟩ := H
  replace H : (if t413 = true then ((impl_ValidWord.f k (wrap64 (a0_0)) a1_0 a1_1 a1_2 a1_3).bind fun t414 => (impl_DecodeNear.j0 k (!t414) a0_0 a0_1 l0_2 a1_0 a1_1 a1_2 a1_3 a2)) else (impl_DecodeNear.j0 k true a0_0 a0_1 l0_2 a1_0 a1_1 a1_2 a1_3 a2)) = some (r1, r2, r3) := H
  have A9 := za.mk A90
  clear A90
  by_cases c10 : t413 = true
  ·subst c10
   have H1 : ((impl_ValidWord.f k (wrap64 (a0_0)) a1_0 a1_1 a1_2 a1_3).bind fun t414 => (impl_DecodeNear.j0 k (!t414) a0_0 a0_1 l0_2 a1_0 a1_1 a1_2 a1_3 a2)) = some (r1, r2, r3) := by rw [if_pos rfl] at H; exact H
   clear H
   have H := H1
   clear H1
   replace H := Option.bind_eq_some_iff.mp H
   obtain ⟨t414, A110, H⟩ := H
   replace H : (impl_DecodeNear.j0 k (!t414) a0_0 a0_1 l0_2 a1_0 a1_1 a1_2 a1_3 a2) = some (r1, r2, r3) := H
   have A11 := za.mk A110
   clear A110
   have H' := za.mk H
   clear H
   have hnb12 := NB409_410.out
   have hnc12 := NB410_409.out
   have hnb13 := NB409_411.out
   have hnc13 := NB411_409.out
   have hnb14 := NB409_412.out
   have hnc14 := NB412_409.out
   obtain ⟨hcz15_0, hcz15_1, hcz15_2⟩ := xc3 BK409
   obtain ⟨hfz15_0, hfz15_1, hfz15_2⟩ := xf3 BK409
   go_wp2_with (first | ((with_reducible refine zo (f := 56) rfl ?_); refine gz (some 11) Try.func56 #[.agg #[.int .i8 a0_0, .int .i8 a0_1, .slice A0_2 l0_2.length c0_2]] rfl rfl ?_; (with_reducible refine (impl_ValidFixed.calls k a0_0 a0_1 _ _ l0_2 true _ ?side1 ?side2 A9.out).mono ?_); (case side1 => exact uC HR0_2 HB); (case side2 => exact HC0_2.out); rintro e w16 ⟨rfl, hb⟩; refine ⟨_, rfl, ?_⟩; replace BK409 := dK BK409 hb; replace BK410 := dK BK410 hb; replace BK411 := dK BK411 hb; replace BK412 := dK BK412 hb; replace HB := za.mk (ze sB hb); try clear hb; obtain ⟨hcz17_0, hcz17_1, hcz17_2⟩ := xc3 BK409; obtain ⟨hfz17_0, hfz17_1, hfz17_2⟩ := xf3 BK409; have hnb18 := NB410_411.out; have hnc18 := NB411_410.out; have hnb19 := NB410_412.out; have hnc19 := NB412_410.out; obtain ⟨hcz20_0, hcz20_1, hcz20_2, hcz20_3⟩ := xc4 BK410; obtain ⟨hfz20_0, hfz20_1, hfz20_2, hfz20_3⟩ := xf4 BK410) | (go_at_call 78; (with_reducible refine (impl_ValidWord.calls k (wrap64 (a0_0)) a1_0 a1_1 a1_2 a1_3 t414 _ A11.out).mono ?_); rintro e w21 ⟨rfl, hb⟩; replace BK409 := dK BK409 hb; replace BK410 := dK BK410 hb; replace BK411 := dK BK411 hb; replace BK412 := dK BK412 hb; replace HB := za.mk (ze sB hb); try clear hb))
   go_meet
   case rel => exact ⟨_, (!t414), (by first | rfl | (simp; done) | (simp [*]; done)), H', ⟨by first | omega | exact Nat.le_refl _⟩, ⟨uK BK409⟩, ⟨uK BK410⟩, ⟨uK BK411⟩, ⟨uK BK412⟩, ⟨sB⟩⟩
  replace c10 := Bool.eq_false_iff.mpr c10
  subst c10
  have H1 : (impl_DecodeNear.j0 k true a0_0 a0_1 l0_2 a1_0 a1_1 a1_2 a1_3 a2) = some (r1, r2, r3) := by rw [if_neg (show ¬ (false = true) by decide)] at H; exact H
  clear H
  have H := H1
  clear H1
  have H' := za.mk H
  clear H
  have hnb22 := NB409_410.out
  have hnc22 := NB410_409.out
  have hnb23 := NB409_411.out
  have hnc23 := NB411_409.out
  have hnb24 := NB409_412.out
  have hnc24 := NB412_409.out
  obtain ⟨hcz25_0, hcz25_1, hcz25_2⟩ := xc3 BK409
  obtain ⟨hfz25_0, hfz25_1, hfz25_2⟩ := xf3 BK409
  go_wp2_with (first | ((with_reducible refine zo (f := 56) rfl ?_); refine gz (some 11) Try.func56 #[.agg #[.int .i8 a0_0, .int .i8 a0_1, .slice A0_2 l0_2.length c0_2]] rfl rfl ?_; (with_reducible refine (impl_ValidFixed.calls k a0_0 a0_1 _ _ l0_2 false _ ?side1 ?side2 A9.out).mono ?_); (case side1 => exact uC HR0_2 HB); (case side2 => exact HC0_2.out); rintro e w26 ⟨rfl, hb⟩; refine ⟨_, rfl, ?_⟩; replace BK409 := dK BK409 hb; replace BK410 := dK BK410 hb; replace BK411 := dK BK411 hb; replace BK412 := dK BK412 hb; replace HB := za.mk (ze sB hb); try clear hb))
  go_meet
  case rel => exact ⟨_, (true), (by first | rfl | (simp; done) | (simp [*]; done)), H', ⟨by first | omega | exact Nat.le_refl _⟩, ⟨uK BK409⟩, ⟨uK BK410⟩, ⟨uK BK411⟩, ⟨uK BK412⟩, ⟨sB⟩⟩
 case rest =>
  clear HC4
  try clear c1
  try clear c2
  try clear p2
  try clear c3
  try clear c5
  try clear p6
  try clear c10
  try clear c12
  try clear c13
  try clear c14
  try clear c18
  try clear c19
  try clear c22
  try clear c23
  try clear c24
  try clear hcz15_0 hcz15_1 hcz15_2
  try clear hcz17_0 hcz17_1 hcz17_2
  try clear hcz20_0 hcz20_1 hcz20_2 hcz20_3
  try clear hcz25_0 hcz25_1 hcz25_2
  try clear hfz15_0 hfz15_1 hfz15_2
  try clear hfz17_0 hfz17_1 hfz17_2
  try clear hfz20_0 hfz20_1 hfz20_2 hfz20_3
  try clear hfz25_0 hfz25_1 hfz25_2
  obtain ⟨kq, x9_3, rfl, HA, HJ3, BK409, BK410, BK411, BK412, HB⟩ := hcut
  cases kq with
  | zero => exact absurd HA.out (by simp [impl_DecodeNear.j0])
  | succ kj3 =>
   have H := HA.out
   clear HA
   simp only [impl_DecodeNear.j0] at H
   by_cases c27 : x9_3 = true
   ·subst c27
    have H1 : (some (0, false, 1)) = some (r1, r2, r3) := by rw [if_pos rfl] at H; exact H
    clear H
    have H := H1
    clear H1
    simp only [Option.some.injEq, Prod.mk.injEq] at H
    obtain ⟨rfl, rfl, rfl⟩ := H
    have hnb28 := NB412_409.out
    have hnc28 := NB409_412.out
    have hnb29 := NB412_410.out
    have hnc29 := NB410_412.out
    have hnb30 := NB412_411.out
    have hnc30 := NB411_412.out
    obtain ⟨hcz31_0, hcz31_1⟩ := xc2 BK412
    obtain ⟨hfz31_0, hfz31_1⟩ := xf2 BK412
    go_wp2
    refine bodyPost_ret (zoa rfl _ _ gb412 38 #[.int .i8 0, .bool false] (0, 0) _ rfl (by (with_reducible repeat (first | refine zc ?_ _ | refine zd ?_ | refine zb ?_ _)); refine zl (cs := #[.int .i8 0, .bool false]) ?_ 1 _ rfl; (with_reducible repeat (first | refine zc ?_ _ | refine zd ?_ | refine zb ?_ _)); refine zl (cs := #[.int .i8 0, .bool false]) ?_ 0 _ rfl; (with_reducible repeat (first | refine zc ?_ _ | refine zd ?_ | refine zb ?_ _)); exact BK412.out) Try.underlying38 rfl (by kernel_rfl)) rfl ?_
    exact ⟨by first | rfl | (simp [zk, zj] <;> rfl) | (simp [*, zk, zj] <;> rfl), sB⟩
   replace c27 := Bool.eq_false_iff.mpr c27
   subst c27
   have H1 : ((impl_within.f a2 0 4).bind fun t415 => (if t415 = true then ((impl_Fixed_cases.f kj3 a0_0 a0_1 l0_2).bind fun t416 => ((impl_Case_84_85.f kj3 t416 a0_0 a0_1 l0_2 a1_0 a1_1 a1_2 a1_3 a2).bind fun t419 => (if (t419.length : Int) = 0 then (some (0, false, 6)) else (if (t419.length : Int) = 1 then (if 0 < (t419.length : Int) then (some ((zf t419 0).f0, (zf t419 0).f1, 0)) else (none)) else (some (0, false, 8)))))) else (some (0, false, 2)))) = some (r1, r2, r3) := by rw [if_neg (show ¬ (false = true) by decide)] at H; exact H
   clear H
   have H := H1
   clear H1
   replace H := Option.bind_eq_some_iff.mp H
   obtain ⟨t415, A320, H⟩ := H
   replace H : (if t415 = true then ((impl_Fixed_cases.f kj3 a0_0 a0_1 l0_2).bind fun t416 => ((impl_Case_84_85.f kj3 t416 a0_0 a0_1 l0_2 a1_0 a1_1 a1_2 a1_3 a2).bind fun t419 => (if (t419.length : Int) = 0 then (some (0, false, 6)) else (if (t419.length : Int) = 1 then (if 0 < (t419.length : Int) then (some ((zf t419 0).f0, (zf t419 0).f1, 0)) else (none)) else (some (0, false, 8)))))) else (some (0, false, 2))) = some (r1, r2, r3) := H
   have A32 := za.mk A320
   clear A320
   by_cases c33 : t415 = true
   ·subst c33
    have H1 : ((impl_Fixed_cases.f kj3 a0_0 a0_1 l0_2).bind fun t416 => ((impl_Case_84_85.f kj3 t416 a0_0 a0_1 l0_2 a1_0 a1_1 a1_2 a1_3 a2).bind fun t419 => (if (t419.length : Int) = 0 then (some (0, false, 6)) else (if (t419.length : Int) = 1 then (if 0 < (t419.length : Int) then (some ((zf t419 0).f0, (zf t419 0).f1, 0)) else (none)) else (some (0, false, 8)))))) = some (r1, r2, r3) := by rw [if_pos rfl] at H; exact H
    clear H
    have H := H1
    clear H1
    replace H := Option.bind_eq_some_iff.mp H
    obtain ⟨t416, A340, H⟩ := H
    replace H : ((impl_Case_84_85.f kj3 t416 a0_0 a0_1 l0_2 a1_0 a1_1 a1_2 a1_3 a2).bind fun t419 => (if (t419.length : Int) = 0 then (some (0, false, 6)) else (if (t419.length : Int) = 1 then (if 0 < (t419.length : Int) then (some ((zf t419 0).f0, (zf t419 0).f1, 0)) else (none)) else (some (0, false, 8))))) = some (r1, r2, r3) := H
    have A34 := za.mk A340
    clear A340
    replace H := Option.bind_eq_some_iff.mp H
    obtain ⟨t419, A350, H⟩ := H
    replace H : (if (t419.length : Int) = 0 then (some (0, false, 6)) else (if (t419.length : Int) = 1 then (if 0 < (t419.length : Int) then (some ((zf t419 0).f0, (zf t419 0).f1, 0)) else (none)) else (some (0, false, 8)))) = some (r1, r2, r3) := H
    have A35 := za.mk A350
    clear A350
    by_cases c36 : (t419.length : Int) = 0
    ·rw [if_pos c36] at H
     have c36b0 : ((t419.length : Int) == 0) = true := beq_iff_eq.mpr c36
     have c36b1 : ((t419.length : Int) != 0) = false := bne_eq_false_iff_eq.mpr c36
     clear c36
     simp only [Option.some.injEq, Prod.mk.injEq] at H
     obtain ⟨rfl, rfl, rfl⟩ := H
     have hnb37 := NB411_409.out
     have hnc37 := NB409_411.out
     have hnb38 := NB411_410.out
     have hnc38 := NB410_411.out
     have hnb39 := NB411_412.out
     have hnc39 := NB412_411.out
     have hcz40_0 := xc1 BK411
     have hfz40_0 := xf1 BK411
     go_wp2_with (first | ((with_reducible refine zo (f := 43) rfl ?_); refine gz (some 24) Try.func43 #[.int .i64 a2, .int .i64 0, .int .i64 4] rfl rfl ?_; (with_reducible refine (impl_within.calls a2 0 4 true _ A32.out).mono ?_); rintro e w' ⟨rfl, ⟨nd, rfl⟩⟩; refine ⟨_, rfl, ?_⟩; (try (rw [zua wc]; generalize hq_ : World.drewN wc _ = wc; have n0_ : za (wc.heap[gb409]? = some (.cells #[.int .i8 a0_0, .int .i8 a0_1, .slice A0_2 l0_2.length c0_2] 28 (0, 0))) := ⟨by rw [← hq_]; exact (uK BK409)⟩; have n1_ : za (wc.heap[gb410]? = some (.cells #[.int .i8 a1_0, .int .i8 a1_1, .int .i8 a1_2, .int .i8 a1_3] 43 (0, 0))) := ⟨by rw [← hq_]; exact (uK BK410)⟩; have n2_ : za (wc.heap[gb411]? = some (.cells #[.int .i64 a2] 2 (0, 0))) := ⟨by rw [← hq_]; exact (uK BK411)⟩; have n3_ : za (wc.heap[gb412]? = some (.cells #[.int .i8 0, .bool false] 38 (0, 0))) := ⟨by rw [← hq_]; exact (uK BK412)⟩; have n4_ : za (Below w.heap.size w wc) := ⟨by rw [← hq_]; exact sB⟩; clear BK409 BK410 BK411 BK412 HB hq_; have BK409 := n0_; have BK410 := n1_; have BK411 := n2_; have BK412 := n3_; have HB := n4_; clear n0_ n1_ n2_ n3_ n4_)); have hnb41 := NB409_410.out; have hnc41 := NB410_409.out; have hnb42 := NB409_412.out; have hnc42 := NB412_409.out; obtain ⟨hcz43_0, hcz43_1, hcz43_2⟩ := xc3 BK409; obtain ⟨hfz43_0, hfz43_1, hfz43_2⟩ := xf3 BK409) | ((with_reducible refine zo (f := 61) rfl ?_); refine gz (some 28) Try.func61 #[.agg #[.int .i8 a0_0, .int .i8 a0_1, .slice A0_2 l0_2.length c0_2]] rfl rfl ?_; (with_reducible refine (impl_Fixed_cases.calls kj3 a0_0 a0_1 _ _ l0_2 t416 _ ?side1 ?side2 A34.out).mono ?_); (case side1 => exact uC HR0_2 HB); (case side2 => exact HC0_2.out); rintro e w44 ⟨v417, rfl, ho0, hb⟩; refine ⟨_, rfl, ?_⟩; have HBx := za.mk hb; have HOx := za.mk ho0; have X409 := dX hb BK409; have X410 := dX hb BK410; have X411 := dX hb BK411; have X412 := dX hb BK412; have XC := xC hb HR0_2 sB; have XB := xB hb sB; have HO418 := za.mk (Kd.R_lower (Kd.R_newB ho0 (g := gb412) (o := .cells #[.int .i8 0, .bool false] 38 (0, 0)) (uK BK412)) (zv sB)); replace BK409 := dK BK409 hb; replace BK410 := dK BK410 hb; replace BK411 := dK BK411 hb; replace BK412 := dK BK412 hb; replace HB := za.mk (ze sB hb); try clear hb; obtain ⟨Ao45, co45, eo45⟩ := Kd.R_slice HO418.out; subst eo45) | ((with_reducible refine zo (f := 84) rfl ?_); refine gz (some 30) Try.func84 #[.slice Ao45 t416.length co45, .func (.func 85) #[] #[.pointer (some ⟨gb409, 0, none⟩), .pointer (some ⟨gb410, 0, none⟩), .pointer (some ⟨gb411, 0, none⟩)]] rfl rfl ?_; refine (zdc kj3 _ t416 gb409 gb410 gb411 a0_0 a0_1 A0_2 c0_2 l0_2 a1_0 a1_1 a1_2 a1_3 a2 t419 _ _ HBx.out HOx.out X409.out X410.out X411.out XC.out HC0_2.out A35.out).mono ?_; rintro e w46 ⟨v420, rfl, ho0, hb⟩; refine ⟨_, rfl, ?_⟩; have HO421 := za.mk ho0; replace BK409 := za.mk (zr X409.out hb); replace BK410 := za.mk (zr X410.out hb); replace BK411 := za.mk (zr X411.out hb); replace BK412 := za.mk (zr X412.out hb); replace HB := za.mk (ze XB.out hb); try clear hb; obtain ⟨Ao47, co47, eo47⟩ := Kd.R_slice HO421.out; subst eo47; have hnb48 := NB412_410.out; have hnc48 := NB410_412.out; obtain ⟨hcz49_0, hcz49_1⟩ := xc2 BK412; obtain ⟨hfz49_0, hfz49_1⟩ := xf2 BK412))
     refine bodyPost_ret (zoa rfl _ _ gb412 38 #[.int .i8 0, .bool false] (0, 0) _ rfl (by (with_reducible repeat (first | refine zc ?_ _ | refine zd ?_ | refine zb ?_ _)); refine zl (cs := #[.int .i8 0, .bool false]) ?_ 1 _ rfl; (with_reducible repeat (first | refine zc ?_ _ | refine zd ?_ | refine zb ?_ _)); refine zl (cs := #[.int .i8 0, .bool false]) ?_ 0 _ rfl; (with_reducible repeat (first | refine zc ?_ _ | refine zd ?_ | refine zb ?_ _)); exact BK412.out) Try.underlying38 rfl (by kernel_rfl)) rfl ?_
     exact ⟨by first | rfl | (simp [zk, zj] <;> rfl) | (simp [*, zk, zj] <;> rfl), sB⟩
    rw [if_neg c36] at H
    have c36b0 : ((t419.length : Int) == 0) = false := beq_eq_false_iff_ne.mpr c36
    have c36b1 : ((t419.length : Int) != 0) = true := bne_iff_ne.mpr c36
    have c36b2 : ¬ (t419 = []) := fun h_ => c36 (by rw [h_]; rfl)
    by_cases c50 : (t419.length : Int) = 1
    ·rw [if_pos c50] at H
     have c50b0 : ((t419.length : Int) == 1) = true := beq_iff_eq.mpr c50
     have c50b1 : ((t419.length : Int) != 1) = false := bne_eq_false_iff_eq.mpr c50
     clear c50
     by_cases c51 : 0 < (t419.length : Int)
     ·rw [if_pos c51] at H
      have c51b0 : decide (0 < (t419.length : Int)) = true := decide_eq_true c51
      have c51b1 : decide (0 < t419.length) = true := decide_eq_true (by omega)
      clear c51
      simp only [Option.some.injEq, Prod.mk.injEq] at H
      obtain ⟨rfl, rfl, rfl⟩ := H
      have hnb52 := NB411_409.out
      have hnc52 := NB409_411.out
      have hnb53 := NB411_410.out
      have hnc53 := NB410_411.out
      have hnb54 := NB411_412.out
      have hnc54 := NB412_411.out
      have hcz55_0 := xc1 BK411
      have hfz55_0 := xf1 BK411
      go_wp2_with (first | ((with_reducible refine zo (f := 43) rfl ?_); refine gz (some 24) Try.func43 #[.int .i64 a2, .int .i64 0, .int .i64 4] rfl rfl ?_; (with_reducible refine (impl_within.calls a2 0 4 true _ A32.out).mono ?_); rintro e w' ⟨rfl, ⟨nd, rfl⟩⟩; refine ⟨_, rfl, ?_⟩; (try (rw [zua wc]; generalize hq_ : World.drewN wc _ = wc; have n0_ : za (wc.heap[gb409]? = some (.cells #[.int .i8 a0_0, .int .i8 a0_1, .slice A0_2 l0_2.length c0_2] 28 (0, 0))) := ⟨by rw [← hq_]; exact (uK BK409)⟩; have n1_ : za (wc.heap[gb410]? = some (.cells #[.int .i8 a1_0, .int .i8 a1_1, .int .i8 a1_2, .int .i8 a1_3] 43 (0, 0))) := ⟨by rw [← hq_]; exact (uK BK410)⟩; have n2_ : za (wc.heap[gb411]? = some (.cells #[.int .i64 a2] 2 (0, 0))) := ⟨by rw [← hq_]; exact (uK BK411)⟩; have n3_ : za (wc.heap[gb412]? = some (.cells #[.int .i8 0, .bool false] 38 (0, 0))) := ⟨by rw [← hq_]; exact (uK BK412)⟩; have n4_ : za (Below w.heap.size w wc) := ⟨by rw [← hq_]; exact sB⟩; clear BK409 BK410 BK411 BK412 HB hq_; have BK409 := n0_; have BK410 := n1_; have BK411 := n2_; have BK412 := n3_; have HB := n4_; clear n0_ n1_ n2_ n3_ n4_)); have hnb56 := NB409_410.out; have hnc56 := NB410_409.out; have hnb57 := NB409_412.out; have hnc57 := NB412_409.out; obtain ⟨hcz58_0, hcz58_1, hcz58_2⟩ := xc3 BK409; obtain ⟨hfz58_0, hfz58_1, hfz58_2⟩ := xf3 BK409) | ((with_reducible refine zo (f := 61) rfl ?_); refine gz (some 28) Try.func61 #[.agg #[.int .i8 a0_0, .int .i8 a0_1, .slice A0_2 l0_2.length c0_2]] rfl rfl ?_; (with_reducible refine (impl_Fixed_cases.calls kj3 a0_0 a0_1 _ _ l0_2 t416 _ ?side1 ?side2 A34.out).mono ?_); (case side1 => exact uC HR0_2 HB); (case side2 => exact HC0_2.out); rintro e w59 ⟨v417, rfl, ho0, hb⟩; refine ⟨_, rfl, ?_⟩; have HBx := za.mk hb; have HOx := za.mk ho0; have X409 := dX hb BK409; have X410 := dX hb BK410; have X411 := dX hb BK411; have X412 := dX hb BK412; have XC := xC hb HR0_2 sB; have XB := xB hb sB; have HO418 := za.mk (Kd.R_lower (Kd.R_newB ho0 (g := gb412) (o := .cells #[.int .i8 0, .bool false] 38 (0, 0)) (uK BK412)) (zv sB)); replace BK409 := dK BK409 hb; replace BK410 := dK BK410 hb; replace BK411 := dK BK411 hb; replace BK412 := dK BK412 hb; replace HB := za.mk (ze sB hb); try clear hb; obtain ⟨Ao60, co60, eo60⟩ := Kd.R_slice HO418.out; subst eo60) | ((with_reducible refine zo (f := 84) rfl ?_); refine gz (some 30) Try.func84 #[.slice Ao60 t416.length co60, .func (.func 85) #[] #[.pointer (some ⟨gb409, 0, none⟩), .pointer (some ⟨gb410, 0, none⟩), .pointer (some ⟨gb411, 0, none⟩)]] rfl rfl ?_; refine (zdc kj3 _ t416 gb409 gb410 gb411 a0_0 a0_1 A0_2 c0_2 l0_2 a1_0 a1_1 a1_2 a1_3 a2 t419 _ _ HBx.out HOx.out X409.out X410.out X411.out XC.out HC0_2.out A35.out).mono ?_; rintro e w61 ⟨v420, rfl, ho0, hb⟩; refine ⟨_, rfl, ?_⟩; have HO421 := za.mk ho0; replace BK409 := za.mk (zr X409.out hb); replace BK410 := za.mk (zr X410.out hb); replace BK411 := za.mk (zr X411.out hb); replace BK412 := za.mk (zr X412.out hb); replace HB := za.mk (ze XB.out hb); try clear hb; obtain ⟨Ao62, co62, eo62⟩ := Kd.R_slice HO421.out; subst eo62; have p422 : 0 ≤ (0 : Int) := (by omega); have q422 : 0 < (t419.length : Int) := of_decide_eq_true (by first | (with_reducible assumption) | assumption); obtain ⟨ad422, e422, hx422_0, hx422_1⟩ := zsb (Kd.R_reads' HO421.out).2.2 0 p422 q422; cases e422; have qi422 : (0 < t419.length) = True := eq_true (by omega); (try rw [show ((0 : Int)).toNat = 0 from rfl] at hx422_0); (try rw [show 0 * 2 = 0 from rfl] at hx422_0); (try rw [Addr.add_zero'] at hx422_0); (try rw [show ((0 : Int)).toNat = 0 from rfl] at hx422_1); (try rw [show 0 * 2 = 0 from rfl] at hx422_1); (try rw [Addr.add_zero'] at hx422_1); replace p422 := eq_true p422; replace q422 := eq_true q422; have hnb63 := NB412_410.out; have hnc63 := NB410_412.out; obtain ⟨hcz64_0, hcz64_1⟩ := xc2 BK412; obtain ⟨hfz64_0, hfz64_1⟩ := xf2 BK412))
      refine bodyPost_ret (zoa rfl _ _ gb412 38 #[.int .i8 ((zf t419 0).f0), .bool ((zf t419 0).f1)] (0, 0) _ rfl (by (with_reducible repeat (first | refine zc ?_ _ | refine zd ?_ | refine zb ?_ _)); refine zl (cs := #[.int .i8 ((zf t419 0).f0), .bool false]) ?_ 1 _ rfl; (with_reducible repeat (first | refine zc ?_ _ | refine zd ?_ | refine zb ?_ _)); refine zl (cs := #[.int .i8 0, .bool false]) ?_ 0 _ rfl; (with_reducible repeat (first | refine zc ?_ _ | refine zd ?_ | refine zb ?_ _)); exact BK412.out) Try.underlying38 rfl (by kernel_rfl)) rfl ?_
      exact ⟨by first | rfl | (simp [zk, zj] <;> rfl) | (simp [*, zk, zj] <;> rfl), sB⟩
     rw [if_neg c51] at H
     exact absurd H (by simp)
    rw [if_neg c50] at H
    have c50b0 : ((t419.length : Int) == 1) = false := beq_eq_false_iff_ne.mpr c50
    have c50b1 : ((t419.length : Int) != 1) = true := bne_iff_ne.mpr c50
    simp only [Option.some.injEq, Prod.mk.injEq] at H
    obtain ⟨rfl, rfl, rfl⟩ := H
    have hnb65 := NB411_409.out
    have hnc65 := NB409_411.out
    have hnb66 := NB411_410.out
    have hnc66 := NB410_411.out
    have hnb67 := NB411_412.out
    have hnc67 := NB412_411.out
    have hcz68_0 := xc1 BK411
    have hfz68_0 := xf1 BK411
    go_wp2_with (first | ((with_reducible refine zo (f := 43) rfl ?_); refine gz (some 24) Try.func43 #[.int .i64 a2, .int .i64 0, .int .i64 4] rfl rfl ?_; (with_reducible refine (impl_within.calls a2 0 4 true _ A32.out).mono ?_); rintro e w' ⟨rfl, ⟨nd, rfl⟩⟩; refine ⟨_, rfl, ?_⟩; (try (rw [zua wc]; generalize hq_ : World.drewN wc _ = wc; have n0_ : za (wc.heap[gb409]? = some (.cells #[.int .i8 a0_0, .int .i8 a0_1, .slice A0_2 l0_2.length c0_2] 28 (0, 0))) := ⟨by rw [← hq_]; exact (uK BK409)⟩; have n1_ : za (wc.heap[gb410]? = some (.cells #[.int .i8 a1_0, .int .i8 a1_1, .int .i8 a1_2, .int .i8 a1_3] 43 (0, 0))) := ⟨by rw [← hq_]; exact (uK BK410)⟩; have n2_ : za (wc.heap[gb411]? = some (.cells #[.int .i64 a2] 2 (0, 0))) := ⟨by rw [← hq_]; exact (uK BK411)⟩; have n3_ : za (wc.heap[gb412]? = some (.cells #[.int .i8 0, .bool false] 38 (0, 0))) := ⟨by rw [← hq_]; exact (uK BK412)⟩; have n4_ : za (Below w.heap.size w wc) := ⟨by rw [← hq_]; exact sB⟩; clear BK409 BK410 BK411 BK412 HB hq_; have BK409 := n0_; have BK410 := n1_; have BK411 := n2_; have BK412 := n3_; have HB := n4_; clear n0_ n1_ n2_ n3_ n4_)); have hnb69 := NB409_410.out; have hnc69 := NB410_409.out; have hnb70 := NB409_412.out; have hnc70 := NB412_409.out; obtain ⟨hcz71_0, hcz71_1, hcz71_2⟩ := xc3 BK409; obtain ⟨hfz71_0, hfz71_1, hfz71_2⟩ := xf3 BK409) | ((with_reducible refine zo (f := 61) rfl ?_); refine gz (some 28) Try.func61 #[.agg #[.int .i8 a0_0, .int .i8 a0_1, .slice A0_2 l0_2.length c0_2]] rfl rfl ?_; (with_reducible refine (impl_Fixed_cases.calls kj3 a0_0 a0_1 _ _ l0_2 t416 _ ?side1 ?side2 A34.out).mono ?_); (case side1 => exact uC HR0_2 HB); (case side2 => exact HC0_2.out); rintro e w72 ⟨v417, rfl, ho0, hb⟩; refine ⟨_, rfl, ?_⟩; have HBx := za.mk hb; have HOx := za.mk ho0; have X409 := dX hb BK409; have X410 := dX hb BK410; have X411 := dX hb BK411; have X412 := dX hb BK412; have XC := xC hb HR0_2 sB; have XB := xB hb sB; have HO418 := za.mk (Kd.R_lower (Kd.R_newB ho0 (g := gb412) (o := .cells #[.int .i8 0, .bool false] 38 (0, 0)) (uK BK412)) (zv sB)); replace BK409 := dK BK409 hb; replace BK410 := dK BK410 hb; replace BK411 := dK BK411 hb; replace BK412 := dK BK412 hb; replace HB := za.mk (ze sB hb); try clear hb; obtain ⟨Ao73, co73, eo73⟩ := Kd.R_slice HO418.out; subst eo73) | ((with_reducible refine zo (f := 84) rfl ?_); refine gz (some 30) Try.func84 #[.slice Ao73 t416.length co73, .func (.func 85) #[] #[.pointer (some ⟨gb409, 0, none⟩), .pointer (some ⟨gb410, 0, none⟩), .pointer (some ⟨gb411, 0, none⟩)]] rfl rfl ?_; refine (zdc kj3 _ t416 gb409 gb410 gb411 a0_0 a0_1 A0_2 c0_2 l0_2 a1_0 a1_1 a1_2 a1_3 a2 t419 _ _ HBx.out HOx.out X409.out X410.out X411.out XC.out HC0_2.out A35.out).mono ?_; rintro e w74 ⟨v420, rfl, ho0, hb⟩; refine ⟨_, rfl, ?_⟩; have HO421 := za.mk ho0; replace BK409 := za.mk (zr X409.out hb); replace BK410 := za.mk (zr X410.out hb); replace BK411 := za.mk (zr X411.out hb); replace BK412 := za.mk (zr X412.out hb); replace HB := za.mk (ze XB.out hb); try clear hb; obtain ⟨Ao75, co75, eo75⟩ := Kd.R_slice HO421.out; subst eo75; have hnb76 := NB412_410.out; have hnc76 := NB410_412.out; obtain ⟨hcz77_0, hcz77_1⟩ := xc2 BK412; obtain ⟨hfz77_0, hfz77_1⟩ := xf2 BK412))
    refine bodyPost_ret (zoa rfl _ _ gb412 38 #[.int .i8 0, .bool false] (0, 0) _ rfl (by (with_reducible repeat (first | refine zc ?_ _ | refine zd ?_ | refine zb ?_ _)); refine zl (cs := #[.int .i8 0, .bool false]) ?_ 1 _ rfl; (with_reducible repeat (first | refine zc ?_ _ | refine zd ?_ | refine zb ?_ _)); refine zl (cs := #[.int .i8 0, .bool false]) ?_ 0 _ rfl; (with_reducible repeat (first | refine zc ?_ _ | refine zd ?_ | refine zb ?_ _)); exact BK412.out) Try.underlying38 rfl (by kernel_rfl)) rfl ?_
    exact ⟨by first | rfl | (simp [zk, zj] <;> rfl) | (simp [*, zk, zj] <;> rfl), sB⟩
   replace c33 := Bool.eq_false_iff.mpr c33
   subst c33
   have H1 : (some (0, false, 2)) = some (r1, r2, r3) := by rw [if_neg (show ¬ (false = true) by decide)] at H; exact H
   clear H
   have H := H1
   clear H1
   simp only [Option.some.injEq, Prod.mk.injEq] at H
   obtain ⟨rfl, rfl, rfl⟩ := H
   have hnb78 := NB411_409.out
   have hnc78 := NB409_411.out
   have hnb79 := NB411_410.out
   have hnc79 := NB410_411.out
   have hnb80 := NB411_412.out
   have hnc80 := NB412_411.out
   have hcz81_0 := xc1 BK411
   have hfz81_0 := xf1 BK411
   go_wp2_with (first | ((with_reducible refine zo (f := 43) rfl ?_); refine gz (some 24) Try.func43 #[.int .i64 a2, .int .i64 0, .int .i64 4] rfl rfl ?_; (with_reducible refine (impl_within.calls a2 0 4 false _ A32.out).mono ?_); rintro e w' ⟨rfl, ⟨nd, rfl⟩⟩; refine ⟨_, rfl, ?_⟩; (try (rw [zua wc]; generalize hq_ : World.drewN wc _ = wc; have n0_ : za (wc.heap[gb409]? = some (.cells #[.int .i8 a0_0, .int .i8 a0_1, .slice A0_2 l0_2.length c0_2] 28 (0, 0))) := ⟨by rw [← hq_]; exact (uK BK409)⟩; have n1_ : za (wc.heap[gb410]? = some (.cells #[.int .i8 a1_0, .int .i8 a1_1, .int .i8 a1_2, .int .i8 a1_3] 43 (0, 0))) := ⟨by rw [← hq_]; exact (uK BK410)⟩; have n2_ : za (wc.heap[gb411]? = some (.cells #[.int .i64 a2] 2 (0, 0))) := ⟨by rw [← hq_]; exact (uK BK411)⟩; have n3_ : za (wc.heap[gb412]? = some (.cells #[.int .i8 0, .bool false] 38 (0, 0))) := ⟨by rw [← hq_]; exact (uK BK412)⟩; have n4_ : za (Below w.heap.size w wc) := ⟨by rw [← hq_]; exact sB⟩; clear BK409 BK410 BK411 BK412 HB hq_; have BK409 := n0_; have BK410 := n1_; have BK411 := n2_; have BK412 := n3_; have HB := n4_; clear n0_ n1_ n2_ n3_ n4_)); have hnb82 := NB412_409.out; have hnc82 := NB409_412.out; have hnb83 := NB412_410.out; have hnc83 := NB410_412.out; obtain ⟨hcz84_0, hcz84_1⟩ := xc2 BK412; obtain ⟨hfz84_0, hfz84_1⟩ := xf2 BK412))
   refine bodyPost_ret (zoa rfl _ _ gb412 38 #[.int .i8 0, .bool false] (0, 0) _ rfl (by (with_reducible repeat (first | refine zc ?_ _ | refine zd ?_ | refine zb ?_ _)); refine zl (cs := #[.int .i8 0, .bool false]) ?_ 1 _ rfl; (with_reducible repeat (first | refine zc ?_ _ | refine zd ?_ | refine zb ?_ _)); refine zl (cs := #[.int .i8 0, .bool false]) ?_ 0 _ rfl; (with_reducible repeat (first | refine zc ?_ _ | refine zd ?_ | refine zb ?_ _)); exact BK412.out) Try.underlying38 rfl (by kernel_rfl)) rfl ?_
   exact ⟨by first | rfl | (simp [zk, zj] <;> rfl) | (simp [*, zk, zj] <;> rfl), sB⟩

end Go.Proofs.Ytmfbcklaomigaaa.N
