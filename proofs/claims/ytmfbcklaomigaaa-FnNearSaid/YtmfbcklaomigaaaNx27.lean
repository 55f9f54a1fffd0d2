-- Written by wip/tools/myprint.py, a program of this session, by way of the kit's print.
import Derived.Test.YtmfbcklaomigaaaNx0
import Derived.Test.YtmfbcklaomigaaaNx1
import Derived.Test.YtmfbcklaomigaaaNx2
import Derived.Test.YtmfbcklaomigaaaNx8
import Derived.Test.YtmfbcklaomigaaaNx13
import Derived.Test.YtmfbcklaomigaaaNx15
import Derived.Test.YtmfbcklaomigaaaNx19
import Derived.Test.YtmfbcklaomigaaaNx22
import Derived.Test.YtmfbcklaomigaaaNx25
import Derived.Test.YtmfbcklaomigaaaNx26
import Derived.Test.YtmfbcklaomigaaaLPrN
namespace Go.Proofs.Ytmfbcklaomigaaa.N
open Go.RowKit Go.Proofs.YtmfbcklaomigaaaW.PrintWords Go.Proofs.YtmfbcklaomigaaaW.PrintLast Go.Proofs.YtmfbcklaomigaaaW.PrintMore
attribute [local go_sem] zqa zpa zwa zxa zla zka zra zta   -- for this text's walks alone
set_option linter.unusedVariables false
set_option linter.unusedSimpArgs false

attribute [local go_sem high] eqA38
/-! ### laws_FnNear: function 4 -/
mutual
def laws_FnNear.j0 : Nat → List Int → List Int → Bool → Option (Bool)
 | 0, _, _, _ => none
 | k + 1, x0, x1, x30 => if x30 = true then (some true) else ((spec_P6Fixed.f k x0).bind fun bt448 => (if (bt448.2.2.length : Int) > 13 then (some true) else ((spec_CasesOf.f k (IntKind.i8.wrap ((bt448.2.2.length : Int))) bt448.2.1 true false).bind fun bt455 => ((impl_LeastDistance.f k bt448.1 bt448.2.1 bt448.2.2).bind fun bt459 => ((spec_LeastDistance.f k bt448.1 bt448.2.1 bt448.2.2).bind fun bt461 => (if bt455.2 = 0 then (if bt459.2 = bt461.2 then (if bt459.2 = 0 then (laws_FnNear.j1 k x1 bt455.1 bt461.1 (bt459.1 != bt461.1) bt448.1 bt448.2.1 bt448.2.2) else (laws_FnNear.j1 k x1 bt455.1 bt461.1 true bt448.1 bt448.2.1 bt448.2.2)) else (laws_FnNear.j1 k x1 bt455.1 bt461.1 true bt448.1 bt448.2.1 bt448.2.2)) else (laws_FnNear.j1 k x1 bt455.1 bt461.1 true bt448.1 bt448.2.1 bt448.2.2)))))))
def laws_FnNear.j1 : Nat → List Int → List (S38) → Int → Bool → Int → Int → List (S43) → Option (Bool)
 | 0, _, _, _, _, _, _, _ => none
 | k + 1, x1, x7, x11, x74, x454000, x454001, x454002 => if x74 = true then (some false) else ((spec_P6Pick.f x1 (x7.length : Int)).bind fun t463 => (if 0 ≤ t463 then (if t463 < (x7.length : Int) then ((spec_SeenOf.f k x454000 x454001 x454002 ((zf x7 t463).f0) ((zf x7 t463).f1)).bind fun bt466 => (laws_FnNear.l0 k x1 x11 bt466.2.2.2.2 0 0 x454000 x454001 x454002 ((zf x7 t463).f0) ((zf x7 t463).f1) bt466.1 bt466.2.1 bt466.2.2.1 bt466.2.2.2.1 bt466.1 bt466.2.1 bt466.2.2.1 bt466.2.2.2.1)) else (none)) else (none)))
def laws_FnNear.l0 : Nat → List Int → Int → Int → Int → Int → Int → Int → List (S43) → Int → Bool → Int → Int → Int → Int → Int → Int → Int → Int → Option (Bool)
 | 0, _, _, _, _, _, _, _, _, _, _, _, _, _, _, _, _, _, _ => none
 | k + 1, x1, x11, x15, x17, x18, x454000, x454001, x454002, x466000, x466001, x472000, x472001, x472002, x472003, x473000, x473001, x473002, x473003 => if x18 < (wrap64 (x454000)) then ((some (([(x18) % 256] : List Int) : List Int)).bind fun y473 => (if y473.length + x1.length < 140737488355328 then ((spec_P6Pick.f (y473 ++ x1) 4).bind fun t479 => (if t479 = 0 then ((some (([(wrap64 (x18 + 7)) % 256] : List Int) : List Int)).bind fun y480 => (if y480.length + x1.length < 140737488355328 then ((spec_P6Pick.f (y480 ++ x1) 3).bind fun t486 => (if 0 ≤ x18 then (if x18 < 4 then (if (rd [(zu x18 0 (IntKind.i8.wrap (wrap64 (t486 - 1))) x473000), (zu x18 1 (IntKind.i8.wrap (wrap64 (t486 - 1))) x473001), (zu x18 2 (IntKind.i8.wrap (wrap64 (t486 - 1))) x473002), (zu x18 3 (IntKind.i8.wrap (wrap64 (t486 - 1))) x473003)] x18) = (rd [x472000, x472001, x472002, x472003] x18) then (laws_FnNear.l0 k x1 x11 x15 x17 (wrap64 (x18 + 1)) x454000 x454001 x454002 x466000 x466001 x472000 x472001 x472002 x472003 (zu x18 0 (IntKind.i8.wrap (wrap64 (t486 - 1))) x473000) (zu x18 1 (IntKind.i8.wrap (wrap64 (t486 - 1))) x473001) (zu x18 2 (IntKind.i8.wrap (wrap64 (t486 - 1))) x473002) (zu x18 3 (IntKind.i8.wrap (wrap64 (t486 - 1))) x473003)) else (laws_FnNear.l0 k x1 x11 x15 (wrap64 (x17 + 1)) (wrap64 (x18 + 1)) x454000 x454001 x454002 x466000 x466001 x472000 x472001 x472002 x472003 (zu x18 0 (IntKind.i8.wrap (wrap64 (t486 - 1))) x473000) (zu x18 1 (IntKind.i8.wrap (wrap64 (t486 - 1))) x473001) (zu x18 2 (IntKind.i8.wrap (wrap64 (t486 - 1))) x473002) (zu x18 3 (IntKind.i8.wrap (wrap64 (t486 - 1))) x473003))) else (none)) else (none))) else (none))) else (if 0 ≤ x18 then (if x18 < 4 then (if (rd [x473000, x473001, x473002, x473003] x18) = (rd [x472000, x472001, x472002, x472003] x18) then (laws_FnNear.l0 k x1 x11 x15 x17 (wrap64 (x18 + 1)) x454000 x454001 x454002 x466000 x466001 x472000 x472001 x472002 x472003 x473000 x473001 x473002 x473003) else (laws_FnNear.l0 k x1 x11 x15 (wrap64 (x17 + 1)) (wrap64 (x18 + 1)) x454000 x454001 x454002 x466000 x466001 x472000 x472001 x472002 x472003 x473000 x473001 x473002 x473003)) else (none)) else (none)))) else (none))) else ((impl_DecodeNear.f k x454000 x454001 x454002 x473000 x473001 x473002 x473003 x17).bind fun bt497 => ((spec_DecodeNear.f k x454000 x454001 x454002 x473000 x473001 x473002 x473003 x17).bind fun bt501 => (if x15 = 0 then (if bt497.2.2 = bt501.2.2 then (if (!(bt497.1 == bt501.1) || (!(bt497.2.1 == bt501.2.1))) = true then (laws_FnNear.j3 k x11 bt497.2.2 true x454000 x454001 x454002 x466000 x466001 x472000 x472001 x472002 x472003 bt501.1 bt501.2.1) else (if bt497.2.2 = 6 then (laws_FnNear.j3 k x11 bt497.2.2 true x454000 x454001 x454002 x466000 x466001 x472000 x472001 x472002 x472003 bt501.1 bt501.2.1) else (if x11 > (wrap64 (2 * x17)) then (if bt497.2.2 = 0 then (laws_FnNear.j3 k x11 bt497.2.2 (!(bt501.1 == x466000) || (!(bt501.2.1 == x466001))) x454000 x454001 x454002 x466000 x466001 x472000 x472001 x472002 x472003 bt501.1 bt501.2.1) else (laws_FnNear.j3 k x11 bt497.2.2 true x454000 x454001 x454002 x466000 x466001 x472000 x472001 x472002 x472003 bt501.1 bt501.2.1)) else (laws_FnNear.j3 k x11 bt497.2.2 false x454000 x454001 x454002 x466000 x466001 x472000 x472001 x472002 x472003 bt501.1 bt501.2.1)))) else (laws_FnNear.j3 k x11 bt497.2.2 true x454000 x454001 x454002 x466000 x466001 x472000 x472001 x472002 x472003 bt501.1 bt501.2.1)) else (laws_FnNear.j3 k x11 bt497.2.2 true x454000 x454001 x454002 x466000 x466001 x472000 x472001 x472002 x472003 bt501.1 bt501.2.1))))
def laws_FnNear.j3 : Nat → Int → Int → Bool → Int → Int → List (S43) → Int → Bool → Int → Int → Int → Int → Int → Bool → Option (Bool)
 | 0, _, _, _, _, _, _, _, _, _, _, _, _, _, _ => none
 | k + 1, x11, x20, x167, x454000, x454001, x454002, x466000, x466001, x472000, x472001, x472002, x472003, x505000, x505001 => if x167 = true then (some false) else (if x20 = 0 then (if (!(x505000 == x466000) || (!(x505001 == x466001))) = true then (some false) else ((impl_DecodeNear.f k x454000 x454001 x454002 x472000 x472001 x472002 x472003 0).bind fun bt505 => (if bt505.2.2 = 0 then (if (bt505.1 == x466000 && (bt505.2.1 == x466001)) = true then (some true) else (if bt505.2.2 = 8 then (some (x11 == 0)) else (some false))) else (if bt505.2.2 = 8 then (some (x11 == 0)) else (some false))))) else (some (x20 == 8)))
end
def laws_FnNear.f (k : Nat) (l0 : List Int) (l1 : List Int) : Option (Bool) := (laws_f6big.f l0).bind fun t446 => (if t446 = true then (laws_FnNear.j0 k l0 l1 true) else ((laws_f6big.f l1).bind fun t447 => (laws_FnNear.j0 k l0 l1 t447)))
set_option maxHeartbeats 8000000 in
set_option maxRecDepth 100000 in
theorem laws_FnNear.calls (k : Nat) (A0 : Option Addr) (c0 : Nat) (l0 : List Int) (A1 : Option Addr) (c1 : Nat) (l1 : List Int) (w : World) (hr0 : Kd.C (Kd.int .u8) w A0 l0.length l0) (hc0 : l0.length ≤ c0) (hr1 : Kd.C (Kd.int .u8) w A1 l1.length l1) (hc1 : l1.length ≤ c1) (h : laws_FnNear.f k l0 l1 = some true) :
  Calls Try.prog 4 #[.slice A0 l0.length c0, .slice A1 l1.length c1] w fun e w' => e = .returned (.bool true) ∧ Below w.heap.size w w' := by
 have hu28 := Try.underlying28
 have hu50 := Try.underlying50
 have hu38 := Try.underlying38
 have hu43 := Try.underlying43
 have HR0 := za.mk hr0
 have HC0 := za.mk hc0
 clear hr0 hc0
 have HR1 := za.mk hr1
 have HC1 := za.mk hc1
 clear hr1 hc1
 have HB := za.mk (Below.refl w.heap.size w)
 have H : ((laws_f6big.f l0).bind fun t446 => (if t446 = true then (laws_FnNear.j0 k l0 l1 true) else ((laws_f6big.f l1).bind fun t447 => (laws_FnNear.j0 k l0 l1 t447)))) = some true := h
 clear h
 have HC3 := za.mk H
 clear H
 go_enter Try.func4, Try.ntmps4
 go_upto_region 1 with (fail)
 repeat (go_quiet (fail); go_upto_region 1 with (fail))
 go_cut [30] (fun v30 wc => ∃ (kq : Nat) (x30_2 : Bool), v30 = .bool x30_2 ∧ za (laws_FnNear.j0 kq l0 l1 x30_2 = some true) ∧ za (kq ≤ k) ∧ za (Below w.heap.size w wc))
 case first =>
  have H := HC3.out
  clear HC3
  replace H := Option.bind_eq_some_iff.mp H
  obtain ⟨t446, A40, H⟩ := H
  replace H : (if t446 = true then (laws_FnNear.j0 k l0 l1 true) else ((laws_f6big.f l1).bind fun t447 => (laws_FnNear.j0 k l0 l1 t447))) = some true := H
  have A4 := za.mk A40
  clear A40
  by_cases c5 : t446 = true
  ·subst c5
   have H1 : (laws_FnNear.j0 k l0 l1 true) = some true := by rw [if_pos rfl] at H; exact H
   clear H
   have H := H1
   clear H1
   have H' := za.mk H
   clear H
   go_wp2_with (first | (go_at_call 6; (with_reducible refine (laws_f6big.calls _ _ l0 true _ ?side1 ?side2 A4.out).mono ?_); (case side1 => exact uC HR0 HB); (case side2 => exact HC0.out); rintro e w' ⟨rfl, ⟨nd, rfl⟩⟩; (try first | exact ⟨rfl, _, World.drewN_drewN _ _ _⟩ | exact ⟨rfl, _, Eq.trans (World.drewN_drewN _ _ _) (congrArg (World.drewN _) (Nat.add_assoc _ _ _))⟩)))
   repeat (go_quiet (first | (go_at_call 6; (with_reducible refine (laws_f6big.calls _ _ l0 true _ ?side1 ?side2 A4.out).mono ?_); (case side1 => exact uC HR0 HB); (case side2 => exact HC0.out); rintro e w' ⟨rfl, ⟨nd, rfl⟩⟩; (try first | exact ⟨rfl, _, World.drewN_drewN _ _ _⟩ | exact ⟨rfl, _, Eq.trans (World.drewN_drewN _ _ _) (congrArg (World.drewN _) (Nat.add_assoc _ _ _))⟩))); try go_wp2_with (first | (go_at_call 6; (with_reducible refine (laws_f6big.calls _ _ l0 true _ ?side1 ?side2 A4.out).mono ?_); (case side1 => exact uC HR0 HB); (case side2 => exact HC0.out); rintro e w' ⟨rfl, ⟨nd, rfl⟩⟩; (try first | exact ⟨rfl, _, World.drewN_drewN _ _ _⟩ | exact ⟨rfl, _, Eq.trans (World.drewN_drewN _ _ _) (congrArg (World.drewN _) (Nat.add_assoc _ _ _))⟩))))
   go_meet
   case rel => exact ⟨_, (true), (by first | rfl | (simp; done) | (simp [*]; done)), H', ⟨by first | omega | exact Nat.le_refl _⟩, ⟨sB⟩⟩
  replace c5 := Bool.eq_false_iff.mpr c5
  subst c5
  have H1 : ((laws_f6big.f l1).bind fun t447 => (laws_FnNear.j0 k l0 l1 t447)) = some true := by rw [if_neg (show ¬ (false = true) by decide)] at H; exact H
  clear H
  have H := H1
  clear H1
  replace H := Option.bind_eq_some_iff.mp H
  obtain ⟨t447, A60, H⟩ := H
  replace H : (laws_FnNear.j0 k l0 l1 t447) = some true := H
  have A6 := za.mk A60
  clear A60
  have H' := za.mk H
  clear H
  go_wp2_with (first | (go_at_call 6; (with_reducible refine (laws_f6big.calls _ _ l0 false _ ?side1 ?side2 A4.out).mono ?_); (case side1 => exact uC HR0 HB); (case side2 => exact HC0.out); rintro e w' ⟨rfl, ⟨nd, rfl⟩⟩; (try first | exact ⟨rfl, _, World.drewN_drewN _ _ _⟩ | exact ⟨rfl, _, Eq.trans (World.drewN_drewN _ _ _) (congrArg (World.drewN _) (Nat.add_assoc _ _ _))⟩)) | (go_at_call 6; (with_reducible refine (laws_f6big.calls _ _ l1 t447 _ ?side1 ?side2 A6.out).mono ?_); (case side1 => repeat (first | exact (Kd.C_below HR1.out sB) | (with_reducible refine Kd.C_alloc ?_ _) | (with_reducible refine Kd.C_drewN ?_ _) | (with_reducible refine Kd.C_drew ?_))); (case side2 => exact HC1.out); rintro e w' ⟨rfl, ⟨nd, rfl⟩⟩; (try first | exact ⟨rfl, _, World.drewN_drewN _ _ _⟩ | exact ⟨rfl, _, Eq.trans (World.drewN_drewN _ _ _) (congrArg (World.drewN _) (Nat.add_assoc _ _ _))⟩)))
  repeat (go_quiet (first | (go_at_call 6; (with_reducible refine (laws_f6big.calls _ _ l0 false _ ?side1 ?side2 A4.out).mono ?_); (case side1 => exact uC HR0 HB); (case side2 => exact HC0.out); rintro e w' ⟨rfl, ⟨nd, rfl⟩⟩; (try first | exact ⟨rfl, _, World.drewN_drewN _ _ _⟩ | exact ⟨rfl, _, Eq.trans (World.drewN_drewN _ _ _) (congrArg (World.drewN _) (Nat.add_assoc _ _ _))⟩)) | (go_at_call 6; (with_reducible refine (laws_f6big.calls _ _ l1 t447 _ ?side1 ?side2 A6.out).mono ?_); (case side1 => repeat (first | exact (Kd.C_below HR1.out sB) | (with_reducible refine Kd.C_alloc ?_ _) | (with_reducible refine Kd.C_drewN ?_ _) | (with_reducible refine Kd.C_drew ?_))); (case side2 => exact HC1.out); rintro e w' ⟨rfl, ⟨nd, rfl⟩⟩; (try first | exact ⟨rfl, _, World.drewN_drewN _ _ _⟩ | exact ⟨rfl, _, Eq.trans (World.drewN_drewN _ _ _) (congrArg (World.drewN _) (Nat.add_assoc _ _ _))⟩))); try go_wp2_with (first | (go_at_call 6; (with_reducible refine (laws_f6big.calls _ _ l0 false _ ?side1 ?side2 A4.out).mono ?_); (case side1 => exact uC HR0 HB); (case side2 => exact HC0.out); rintro e w' ⟨rfl, ⟨nd, rfl⟩⟩; (try first | exact ⟨rfl, _, World.drewN_drewN _ _ _⟩ | exact ⟨rfl, _, Eq.trans (World.drewN_drewN _ _ _) (congrArg (World.drewN _) (Nat.add_assoc _ _ _))⟩)) | (go_at_call 6; (with_reducible refine (laws_f6big.calls _ _ l1 t447 _ ?side1 ?side2 A6.out).mono ?_); (case side1 => repeat (first | exact (Kd.C_below HR1.out sB) | (with_reducible refine Kd.C_alloc ?_ _) | (with_reducible refine Kd.C_drewN ?_ _) | (with_reducible refine Kd.C_drew ?_))); (case side2 => exact HC1.out); rintro e w' ⟨rfl, ⟨nd, rfl⟩⟩; (try first | exact ⟨rfl, _, World.drewN_drewN _ _ _⟩ | exact ⟨rfl, _, Eq.trans (World.drewN_drewN _ _ _) (congrArg (World.drewN _) (Nat.add_assoc _ _ _))⟩))))
  go_meet
  case rel => exact ⟨_, (t447), (by first | rfl | (simp; done) | (simp [*]; done)), H', ⟨by first | omega | exact Nat.le_refl _⟩, ⟨sB⟩⟩
 case rest =>
  clear HC3
  try clear c1
  try clear p2
  try clear c4
  try clear c5
  obtain ⟨kq, x30_2, rfl, HA, HJ2, HB⟩ := hcut
  cases kq with
  | zero => exact absurd HA.out (by simp [laws_FnNear.j0])
  | succ kj2 =>
   have H := HA.out
   clear HA
   simp only [laws_FnNear.j0] at H
   by_cases c7 : x30_2 = true
   ·subst c7
    have H1 : (some true) = some true := rfl
    clear H
    have H := H1
    clear H1
    clear H
    go_wp2
    repeat (go_quiet (fail); try go_wp2)
    go_ret
    exact ⟨by first | rfl | (simp [zk, zj] <;> rfl) | (simp [*, zk, zj] <;> rfl), sB⟩
   replace c7 := Bool.eq_false_iff.mpr c7
   subst c7
   have H1 : ((spec_P6Fixed.f kj2 l0).bind fun bt448 => (if (bt448.2.2.length : Int) > 13 then (some true) else ((spec_CasesOf.f kj2 (IntKind.i8.wrap ((bt448.2.2.length : Int))) bt448.2.1 true false).bind fun bt455 => ((impl_LeastDistance.f kj2 bt448.1 bt448.2.1 bt448.2.2).bind fun bt459 => ((spec_LeastDistance.f kj2 bt448.1 bt448.2.1 bt448.2.2).bind fun bt461 => (if bt455.2 = 0 then (if bt459.2 = bt461.2 then (if bt459.2 = 0 then (laws_FnNear.j1 kj2 l1 bt455.1 bt461.1 (bt459.1 != bt461.1) bt448.1 bt448.2.1 bt448.2.2) else (laws_FnNear.j1 kj2 l1 bt455.1 bt461.1 true bt448.1 bt448.2.1 bt448.2.2)) else (laws_FnNear.j1 kj2 l1 bt455.1 bt461.1 true bt448.1 bt448.2.1 bt448.2.2)) else (laws_FnNear.j1 kj2 l1 bt455.1 bt461.1 true bt448.1 bt448.2.1 bt448.2.2))))))) = some true := by rw [if_neg (show ¬ (false = true) by decide)] at H; exact H
   clear H
   have H := H1
   clear H1
   replace H := Option.bind_eq_some_iff.mp H
   obtain ⟨⟨t448, t449, t450⟩, A80, H⟩ := H
   replace H : (if (t450.length : Int) > 13 then (some true) else ((spec_CasesOf.f kj2 (IntKind.i8.wrap ((t450.length : Int))) t449 true false).bind fun bt455 => ((impl_LeastDistance.f kj2 t448 t449 t450).bind fun bt459 => ((spec_LeastDistance.f kj2 t448 t449 t450).bind fun bt461 => (if bt455.2 = 0 then (if bt459.2 = bt461.2 then (if bt459.2 = 0 then (laws_FnNear.j1 kj2 l1 bt455.1 bt461.1 (bt459.1 != bt461.1) t448 t449 t450) else (laws_FnNear.j1 kj2 l1 bt455.1 bt461.1 true t448 t449 t450)) else (laws_FnNear.j1 kj2 l1 bt455.1 bt461.1 true t448 t449 t450)) else (laws_FnNear.j1 kj2 l1 bt455.1 bt461.1 true t448 t449 t450)))))) = some true := H
   have A8 := za.mk A80
   clear A80
   by_cases c9 : (t450.length : Int) > 13
   ·rw [if_pos c9] at H
    have c9b0 : decide (13 < (t450.length : Int)) = true := decide_eq_true c9
    have c9b1 : decide (13 < t450.length) = true := decide_eq_true (by omega)
    clear c9
    clear H
    go_wp2_with (first | (go_at_call 14; (with_reducible refine (spec_P6Fixed.calls kj2 _ _ l0 t448 t449 t450 _ ?side1 ?side2 A8.out).mono ?_); (case side1 => exact uC HR0 HB); (case side2 => exact HC0.out); rintro e w10 ⟨v451, rfl, ho0, hb⟩; have HO452 := za.mk (Kd.R_lower ho0 (zv sB)); replace HB := za.mk (ze sB hb); try clear hb) | ((with_reducible refine zn (N := 5) rfl ?_); refine bx (N := 5) #[.int .i8 0, .int .i8 0, .slice none 0 0] 28 rfl ?_; intro gb453 hg w11 hbox hb; have BK453 := za.mk hbox; have GW453 := gB hg; have GE453 := GW453; replace HO452 := dR HO452 hb; replace HB := za.mk (ze sB hb); clear hb hbox hg; obtain ⟨hcz12_0, hcz12_1, hcz12_2⟩ := xc3 BK453; obtain ⟨hfz12_0, hfz12_1, hfz12_2⟩ := xf3 BK453; obtain ⟨Ao13, co13, eo13⟩ := Kd.R_slice HO452.out; subst eo13) | ((with_reducible refine zn (N := 6) rfl ?_); refine bx (N := 6) #[.int .i8 0, .int .i8 0, .bool false, .bool false] 50 rfl ?_; intro gb454 hg w14 hbox hb; have n0_ := za.mk (Kd.R_below (uR' (Kd.R_mono (Kd.R_far (p := ⟨gb453, 2, none⟩) (Kd.R_far (p := ⟨gb453, 1, none⟩) (Kd.R_far (p := ⟨gb453, 0, none⟩) (Kd.R_types HO452.out BK453.out (by decide)) (fun _ hk => hk.2) (.int .i8 t448)) (fun _ hk => hk.2) (.int .i8 t449)) (fun _ hk => hk.2) (.slice Ao13 t450.length co13)) (fun _ h_ => h_.1))) hb); have n1_ := za.mk (zr (g := gb453) (o := .cells #[.int .i8 t448, .int .i8 t449, .slice Ao13 t450.length co13] 28 (0, 0)) (by (with_reducible repeat (first | refine zc ?_ _ | refine zd ?_ | refine zb ?_ _)); refine zl (cs := #[.int .i8 t448, .int .i8 t449, .slice none 0 0]) ?_ 2 _ rfl; (with_reducible repeat (first | refine zc ?_ _ | refine zd ?_ | refine zb ?_ _)); refine zl (cs := #[.int .i8 t448, .int .i8 0, .slice none 0 0]) ?_ 1 _ rfl; (with_reducible repeat (first | refine zc ?_ _ | refine zd ?_ | refine zb ?_ _)); refine zl (cs := #[.int .i8 0, .int .i8 0, .slice none 0 0]) ?_ 0 _ rfl; (with_reducible repeat (first | refine zc ?_ _ | refine zd ?_ | refine zb ?_ _)); exact BK453.out) hb); have n2_ := za.mk (ze sB hb); have n3_ := za.mk hbox; have n4_ := gB hg; have n5_ := n4_; have n6_ := za.mk ((by rw [hg]; exact Nat.ne_of_lt (zdb (g := gb453) (o := .cells #[.int .i8 t448, .int .i8 t449, .slice Ao13 t450.length co13] 28 (0, 0)) (by (with_reducible repeat (first | refine zc ?_ _ | refine zd ?_ | refine zb ?_ _)); refine zl (cs := #[.int .i8 t448, .int .i8 t449, .slice none 0 0]) ?_ 2 _ rfl; (with_reducible repeat (first | refine zc ?_ _ | refine zd ?_ | refine zb ?_ _)); refine zl (cs := #[.int .i8 t448, .int .i8 0, .slice none 0 0]) ?_ 1 _ rfl; (with_reducible repeat (first | refine zc ?_ _ | refine zd ?_ | refine zb ?_ _)); refine zl (cs := #[.int .i8 0, .int .i8 0, .slice none 0 0]) ?_ 0 _ rfl; (with_reducible repeat (first | refine zc ?_ _ | refine zd ?_ | refine zb ?_ _)); exact BK453.out)) : gb453 ≠ gb454)); have n7_ := za.mk n6_.out.symm; clear HO452; clear BK453; clear HB; have HO452 := n0_; have BK453 := n1_; have HB := n2_; have BK454 := n3_; have GW454 := n4_; have GE454 := n5_; have NB453_454 := n6_; have NB454_453 := n7_; clear n0_ n1_ n2_ n3_ n4_ n5_ n6_ n7_; clear hb hbox hg; have hnb15 := NB454_453.out; have hnc15 := NB453_454.out; obtain ⟨hcz16_0, hcz16_1, hcz16_2, hcz16_3⟩ := xc4 BK454; obtain ⟨hfz16_0, hfz16_1, hfz16_2, hfz16_3⟩ := xf4 BK454; obtain ⟨hcz17_0, hcz17_1, hcz17_2⟩ := xc3 BK453; obtain ⟨hfz17_0, hfz17_1, hfz17_2⟩ := xf3 BK453))
    repeat (go_quiet (fail); try go_wp2_with (first | (go_at_call 14; (with_reducible refine (spec_P6Fixed.calls kj2 _ _ l0 t448 t449 t450 _ ?side1 ?side2 A8.out).mono ?_); (case side1 => exact uC HR0 HB); (case side2 => exact HC0.out); rintro e w10 ⟨v451, rfl, ho0, hb⟩; have HO452 := za.mk (Kd.R_lower ho0 (zv sB)); replace HB := za.mk (ze sB hb); try clear hb) | ((with_reducible refine zn (N := 5) rfl ?_); refine bx (N := 5) #[.int .i8 0, .int .i8 0, .slice none 0 0] 28 rfl ?_; intro gb453 hg w11 hbox hb; have BK453 := za.mk hbox; have GW453 := gB hg; have GE453 := GW453; replace HO452 := dR HO452 hb; replace HB := za.mk (ze sB hb); clear hb hbox hg; obtain ⟨hcz12_0, hcz12_1, hcz12_2⟩ := xc3 BK453; obtain ⟨hfz12_0, hfz12_1, hfz12_2⟩ := xf3 BK453; obtain ⟨Ao13, co13, eo13⟩ := Kd.R_slice HO452.out; subst eo13) | ((with_reducible refine zn (N := 6) rfl ?_); refine bx (N := 6) #[.int .i8 0, .int .i8 0, .bool false, .bool false] 50 rfl ?_; intro gb454 hg w14 hbox hb; have n0_ := za.mk (Kd.R_below (uR' (Kd.R_mono (Kd.R_far (p := ⟨gb453, 2, none⟩) (Kd.R_far (p := ⟨gb453, 1, none⟩) (Kd.R_far (p := ⟨gb453, 0, none⟩) (Kd.R_types HO452.out BK453.out (by decide)) (fun _ hk => hk.2) (.int .i8 t448)) (fun _ hk => hk.2) (.int .i8 t449)) (fun _ hk => hk.2) (.slice Ao13 t450.length co13)) (fun _ h_ => h_.1))) hb); have n1_ := za.mk (zr (g := gb453) (o := .cells #[.int .i8 t448, .int .i8 t449, .slice Ao13 t450.length co13] 28 (0, 0)) (by (with_reducible repeat (first | refine zc ?_ _ | refine zd ?_ | refine zb ?_ _)); refine zl (cs := #[.int .i8 t448, .int .i8 t449, .slice none 0 0]) ?_ 2 _ rfl; (with_reducible repeat (first | refine zc ?_ _ | refine zd ?_ | refine zb ?_ _)); refine zl (cs := #[.int .i8 t448, .int .i8 0, .slice none 0 0]) ?_ 1 _ rfl; (with_reducible repeat (first | refine zc ?_ _ | refine zd ?_ | refine zb ?_ _)); refine zl (cs := #[.int .i8 0, .int .i8 0, .slice none 0 0]) ?_ 0 _ rfl; (with_reducible repeat (first | refine zc ?_ _ | refine zd ?_ | refine zb ?_ _)); exact BK453.out) hb); have n2_ := za.mk (ze sB hb); have n3_ := za.mk hbox; have n4_ := gB hg; have n5_ := n4_; have n6_ := za.mk ((by rw [hg]; exact Nat.ne_of_lt (zdb (g := gb453) (o := .cells #[.int .i8 t448, .int .i8 t449, .slice Ao13 t450.length co13] 28 (0, 0)) (by (with_reducible repeat (first | refine zc ?_ _ | refine zd ?_ | refine zb ?_ _)); refine zl (cs := #[.int .i8 t448, .int .i8 t449, .slice none 0 0]) ?_ 2 _ rfl; (with_reducible repeat (first | refine zc ?_ _ | refine zd ?_ | refine zb ?_ _)); refine zl (cs := #[.int .i8 t448, .int .i8 0, .slice none 0 0]) ?_ 1 _ rfl; (with_reducible repeat (first | refine zc ?_ _ | refine zd ?_ | refine zb ?_ _)); refine zl (cs := #[.int .i8 0, .int .i8 0, .slice none 0 0]) ?_ 0 _ rfl; (with_reducible repeat (first | refine zc ?_ _ | refine zd ?_ | refine zb ?_ _)); exact BK453.out)) : gb453 ≠ gb454)); have n7_ := za.mk n6_.out.symm; clear HO452; clear BK453; clear HB; have HO452 := n0_; have BK453 := n1_; have HB := n2_; have BK454 := n3_; have GW454 := n4_; have GE454 := n5_; have NB453_454 := n6_; have NB454_453 := n7_; clear n0_ n1_ n2_ n3_ n4_ n5_ n6_ n7_; clear hb hbox hg; have hnb15 := NB454_453.out; have hnc15 := NB453_454.out; obtain ⟨hcz16_0, hcz16_1, hcz16_2, hcz16_3⟩ := xc4 BK454; obtain ⟨hfz16_0, hfz16_1, hfz16_2, hfz16_3⟩ := xf4 BK454; obtain ⟨hcz17_0, hcz17_1, hcz17_2⟩ := xc3 BK453; obtain ⟨hfz17_0, hfz17_1, hfz17_2⟩ := xf3 BK453)))
    go_ret
    exact ⟨by first | rfl | (simp [zk, zj] <;> rfl) | (simp [*, zk, zj] <;> rfl), sB⟩
   rw [if_neg c9] at H
   have c9b0 : decide (13 < (t450.length : Int)) = false := decide_eq_false c9
   have c9b1 : decide (13 < t450.length) = false := decide_eq_false (by omega)
   clear c9
   replace H := Option.bind_eq_some_iff.mp H
   obtain ⟨⟨t455, t458⟩, A180, H⟩ := H
   replace H : ((impl_LeastDistance.f kj2 t448 t449 t450).bind fun bt459 => ((spec_LeastDistance.f kj2 t448 t449 t450).bind fun bt461 => (if t458 = 0 then (if bt459.2 = bt461.2 then (if bt459.2 = 0 then (laws_FnNear.j1 kj2 l1 t455 bt461.1 (bt459.1 != bt461.1) t448 t449 t450) else (laws_FnNear.j1 kj2 l1 t455 bt461.1 true t448 t449 t450)) else (laws_FnNear.j1 kj2 l1 t455 bt461.1 true t448 t449 t450)) else (laws_FnNear.j1 kj2 l1 t455 bt461.1 true t448 t449 t450)))) = some true := H
   have A18 := za.mk A180
   clear A180
   replace H := Option.bind_eq_some_iff.mp H
   obtain ⟨⟨t459, t460⟩, A190, H⟩ := H
   replace H : ((spec_LeastDistance.f kj2 t448 t449 t450).bind fun bt461 => (if t458 = 0 then (if t460 = bt461.2 then (if t460 = 0 then (laws_FnNear.j1 kj2 l1 t455 bt461.1 (t459 != bt461.1) t448 t449 t450) else (laws_FnNear.j1 kj2 l1 t455 bt461.1 true t448 t449 t450)) else (laws_FnNear.j1 kj2 l1 t455 bt461.1 true t448 t449 t450)) else (laws_FnNear.j1 kj2 l1 t455 bt461.1 true t448 t449 t450))) = some true := H
   have A19 := za.mk A190
   clear A190
   replace H := Option.bind_eq_some_iff.mp H
   obtain ⟨⟨t461, t462⟩, A200, H⟩ := H
   replace H : (if t458 = 0 then (if t460 = t462 then (if t460 = 0 then (laws_FnNear.j1 kj2 l1 t455 t461 (t459 != t461) t448 t449 t450) else (laws_FnNear.j1 kj2 l1 t455 t461 true t448 t449 t450)) else (laws_FnNear.j1 kj2 l1 t455 t461 true t448 t449 t450)) else (laws_FnNear.j1 kj2 l1 t455 t461 true t448 t449 t450)) = some true := H
   have A20 := za.mk A200
   clear A200
   have HC21 := za.mk H
   clear H
   go_upto_region 10 with (first | (go_at_call 14; (with_reducible refine (spec_P6Fixed.calls kj2 _ _ l0 t448 t449 t450 _ ?side1 ?side2 A8.out).mono ?_); (case side1 => exact uC HR0 HB); (case side2 => exact HC0.out); rintro e w22 ⟨v451, rfl, ho0, hb⟩; have HO452 := za.mk (Kd.R_lower ho0 (zv sB)); replace HB := za.mk (ze sB hb); try clear hb) | ((with_reducible refine zn (N := 5) rfl ?_); refine bx (N := 5) #[.int .i8 0, .int .i8 0, .slice none 0 0] 28 rfl ?_; intro gb453 hg w23 hbox hb; have BK453 := za.mk hbox; have GW453 := gB hg; have GE453 := GW453; replace HO452 := dR HO452 hb; replace HB := za.mk (ze sB hb); clear hb hbox hg; obtain ⟨hcz24_0, hcz24_1, hcz24_2⟩ := xc3 BK453; obtain ⟨hfz24_0, hfz24_1, hfz24_2⟩ := xf3 BK453; obtain ⟨Ao25, co25, eo25⟩ := Kd.R_slice HO452.out; subst eo25) | ((with_reducible refine zn (N := 6) rfl ?_); refine bx (N := 6) #[.int .i8 0, .int .i8 0, .bool false, .bool false] 50 rfl ?_; intro gb454 hg w26 hbox hb; have n0_ := za.mk (Kd.R_below (uR' (Kd.R_mono (Kd.R_far (p := ⟨gb453, 2, none⟩) (Kd.R_far (p := ⟨gb453, 1, none⟩) (Kd.R_far (p := ⟨gb453, 0, none⟩) (Kd.R_types HO452.out BK453.out (by decide)) (fun _ hk => hk.2) (.int .i8 t448)) (fun _ hk => hk.2) (.int .i8 t449)) (fun _ hk => hk.2) (.slice Ao25 t450.length co25)) (fun _ h_ => h_.1))) hb); have n1_ := za.mk (zr (g := gb453) (o := .cells #[.int .i8 t448, .int .i8 t449, .slice Ao25 t450.length co25] 28 (0, 0)) (by (with_reducible repeat (first | refine zc ?_ _ | refine zd ?_ | refine zb ?_ _)); refine zl (cs := #[.int .i8 t448, .int .i8 t449, .slice none 0 0]) ?_ 2 _ rfl; (with_reducible repeat (first | refine zc ?_ _ | refine zd ?_ | refine zb ?_ _)); refine zl (cs := #[.int .i8 t448, .int .i8 0, .slice none 0 0]) ?_ 1 _ rfl; (with_reducible repeat (first | refine zc ?_ _ | refine zd ?_ | refine zb ?_ _)); refine zl (cs := #[.int .i8 0, .int .i8 0, .slice none 0 0]) ?_ 0 _ rfl; (with_reducible repeat (first | refine zc ?_ _ | refine zd ?_ | refine zb ?_ _)); exact BK453.out) hb); have n2_ := za.mk (ze sB hb); have n3_ := za.mk hbox; have n4_ := gB hg; have n5_ := n4_; have n6_ := za.mk ((by rw [hg]; exact Nat.ne_of_lt (zdb (g := gb453) (o := .cells #[.int .i8 t448, .int .i8 t449, .slice Ao25 t450.length co25] 28 (0, 0)) (by (with_reducible repeat (first | refine zc ?_ _ | refine zd ?_ | refine zb ?_ _)); refine zl (cs := #[.int .i8 t448, .int .i8 t449, .slice none 0 0]) ?_ 2 _ rfl; (with_reducible repeat (first | refine zc ?_ _ | refine zd ?_ | refine zb ?_ _)); refine zl (cs := #[.int .i8 t448, .int .i8 0, .slice none 0 0]) ?_ 1 _ rfl; (with_reducible repeat (first | refine zc ?_ _ | refine zd ?_ | refine zb ?_ _)); refine zl (cs := #[.int .i8 0, .int .i8 0, .slice none 0 0]) ?_ 0 _ rfl; (with_reducible repeat (first | refine zc ?_ _ | refine zd ?_ | refine zb ?_ _)); exact BK453.out)) : gb453 ≠ gb454)); have n7_ := za.mk n6_.out.symm; clear HO452; clear BK453; clear HB; have HO452 := n0_; have BK453 := n1_; have HB := n2_; have BK454 := n3_; have GW454 := n4_; have GE454 := n5_; have NB453_454 := n6_; have NB454_453 := n7_; clear n0_ n1_ n2_ n3_ n4_ n5_ n6_ n7_; clear hb hbox hg; have hnb27 := NB454_453.out; have hnc27 := NB453_454.out; obtain ⟨hcz28_0, hcz28_1, hcz28_2, hcz28_3⟩ := xc4 BK454; obtain ⟨hfz28_0, hfz28_1, hfz28_2, hfz28_3⟩ := xf4 BK454; obtain ⟨hcz29_0, hcz29_1, hcz29_2⟩ := xc3 BK453; obtain ⟨hfz29_0, hfz29_1, hfz29_2⟩ := xf3 BK453) | (go_at_call 24; (with_reducible refine (spec_CasesOf.calls kj2 (IntKind.i8.wrap ((t450.length : Int))) t449 true false t455 t458 _ A18.out).mono ?_); rintro e w30 ⟨v456, rfl, ho0, hb⟩; have n0_ := za.mk (Kd.R_below (by (with_reducible repeat (first | apply Kd.R_alloc | apply Kd.R_drewN | apply Kd.R_drew)); exact (Kd.R_mono (Kd.R_far (p := ⟨gb454, 3, none⟩) (Kd.R_far (p := ⟨gb454, 2, none⟩) (Kd.R_far (p := ⟨gb454, 1, none⟩) (Kd.R_far (p := ⟨gb454, 0, none⟩) (Kd.R_types HO452.out BK454.out (by decide)) (fun _ hk => hk.2) (.int .i8 (IntKind.i8.wrap ((t450.length : Int))))) (fun _ hk => hk.2) (.int .i8 t449)) (fun _ hk => hk.2) (.bool true)) (fun _ hk => hk.2) (.bool false)) (fun _ h_ => h_.1))) hb); have n1_ := za.mk (Kd.R_lower ho0 (zv sB)); have n2_ := za.mk (zr (g := gb453) (o := .cells #[.int .i8 t448, .int .i8 t449, .slice Ao25 t450.length co25] 28 (0, 0)) (by (with_reducible repeat (first | refine zc ?_ _ | refine zd ?_ | refine zb ?_ _)); refine zm ?_ NB453_454.out _; (with_reducible repeat (first | refine zc ?_ _ | refine zd ?_ | refine zb ?_ _)); refine zm ?_ NB453_454.out _; (with_reducible repeat (first | refine zc ?_ _ | refine zd ?_ | refine zb ?_ _)); refine zm ?_ NB453_454.out _; (with_reducible repeat (first | refine zc ?_ _ | refine zd ?_ | refine zb ?_ _)); refine zm ?_ NB453_454.out _; (with_reducible repeat (first | refine zc ?_ _ | refine zd ?_ | refine zb ?_ _)); exact BK453.out) hb); have n3_ := za.mk (zr (g := gb454) (o := .cells #[.int .i8 (IntKind.i8.wrap ((t450.length : Int))), .int .i8 t449, .bool true, .bool false] 50 (0, 0)) (by (with_reducible repeat (first | refine zc ?_ _ | refine zd ?_ | refine zb ?_ _)); refine zl (cs := #[.int .i8 (IntKind.i8.wrap ((t450.length : Int))), .int .i8 t449, .bool true, .bool false]) ?_ 3 _ rfl; (with_reducible repeat (first | refine zc ?_ _ | refine zd ?_ | refine zb ?_ _)); refine zl (cs := #[.int .i8 (IntKind.i8.wrap ((t450.length : Int))), .int .i8 t449, .bool false, .bool false]) ?_ 2 _ rfl; (with_reducible repeat (first | refine zc ?_ _ | refine zd ?_ | refine zb ?_ _)); refine zl (cs := #[.int .i8 (IntKind.i8.wrap ((t450.length : Int))), .int .i8 0, .bool false, .bool false]) ?_ 1 _ rfl; (with_reducible repeat (first | refine zc ?_ _ | refine zd ?_ | refine zb ?_ _)); refine zl (cs := #[.int .i8 0, .int .i8 0, .bool false, .bool false]) ?_ 0 _ rfl; (with_reducible repeat (first | refine zc ?_ _ | refine zd ?_ | refine zb ?_ _)); exact BK454.out) hb); have n4_ := za.mk (ze sB hb); clear HO452; clear BK453; clear BK454; clear HB; have HO452 := n0_; have HO457 := n1_; have BK453 := n2_; have BK454 := n3_; have HB := n4_; clear n0_ n1_ n2_ n3_ n4_; try clear hb; obtain ⟨hcz31_0, hcz31_1, hcz31_2⟩ := xc3 BK453; obtain ⟨hfz31_0, hfz31_1, hfz31_2⟩ := xf3 BK453) | (go_at_call 18; (with_reducible refine (impl_LeastDistance.calls kj2 t448 t449 _ _ t450 t459 t460 _ ?side1 ?side2 A19.out).mono ?_); (case side1 => exact uQ HO452); (case side2 => exact (Kd.R_reads' HO452.out).2.1); rintro e w32 ⟨rfl, hb⟩; replace HO452 := dR HO452 hb; replace HO457 := dR HO457 hb; replace BK453 := dK BK453 hb; replace BK454 := dK BK454 hb; replace HB := za.mk (ze sB hb); try clear hb; obtain ⟨hcz33_0, hcz33_1, hcz33_2⟩ := xc3 BK453; obtain ⟨hfz33_0, hfz33_1, hfz33_2⟩ := xf3 BK453) | (go_at_call 29; (with_reducible refine (spec_LeastDistance.calls kj2 t448 t449 _ _ t450 t461 t462 _ ?side1 ?side2 A20.out).mono ?_); (case side1 => exact uQ HO452); (case side2 => exact (Kd.R_reads' HO452.out).2.1); rintro e w34 ⟨rfl, hb⟩; replace HO452 := dR HO452 hb; replace HO457 := dR HO457 hb; replace BK453 := dK BK453 hb; replace BK454 := dK BK454 hb; replace HB := za.mk (ze sB hb); try clear hb))
   repeat (go_quiet (fail); go_upto_region 10 with (first | (go_at_call 14; (with_reducible refine (spec_P6Fixed.calls kj2 _ _ l0 t448 t449 t450 _ ?side1 ?side2 A8.out).mono ?_); (case side1 => exact uC HR0 HB); (case side2 => exact HC0.out); rintro e w22 ⟨v451, rfl, ho0, hb⟩; have HO452 := za.mk (Kd.R_lower ho0 (zv sB)); replace HB := za.mk (ze sB hb); try clear hb) | ((with_reducible refine zn (N := 5) rfl ?_); refine bx (N := 5) #[.int .i8 0, .int .i8 0, .slice none 0 0] 28 rfl ?_; intro gb453 hg w23 hbox hb; have BK453 := za.mk hbox; have GW453 := gB hg; have GE453 := GW453; replace HO452 := dR HO452 hb; replace HB := za.mk (ze sB hb); clear hb hbox hg; obtain ⟨hcz24_0, hcz24_1, hcz24_2⟩ := xc3 BK453; obtain ⟨hfz24_0, hfz24_1, hfz24_2⟩ := xf3 BK453; obtain ⟨Ao25, co25, eo25⟩ := Kd.R_slice HO452.out; subst eo25) | ((with_reducible refine zn (N := 6) rfl ?_); refine bx (N := 6) #[.int .i8 0, .int .i8 0, .bool false, .bool false] 50 rfl ?_; intro gb454 hg w26 hbox hb; have n0_ := za.mk (Kd.R_below (uR' (Kd.R_mono (Kd.R_far (p := ⟨gb453, 2, none⟩) (Kd.R_far (p := ⟨gb453, 1, none⟩) (Kd.R_far (p := ⟨gb453, 0, none⟩) (Kd.R_types HO452.out BK453.out (by decide)) (fun _ hk => hk.2) (.int .i8 t448)) (fun _ hk => hk.2) (.int .i8 t449)) (fun _ hk => hk.2) (.slice Ao25 t450.length co25)) (fun _ h_ => h_.1))) hb); have n1_ := za.mk (zr (g := gb453) (o := .cells #[.int .i8 t448, .int .i8 t449, .slice Ao25 t450.length co25] 28 (0, 0)) (by (with_reducible repeat (first | refine zc ?_ _ | refine zd ?_ | refine zb ?_ _)); refine zl (cs := #[.int .i8 t448, .int .i8 t449, .slice none 0 0]) ?_ 2 _ rfl; (with_reducible repeat (first | refine zc ?_ _ | refine zd ?_ | refine zb ?_ _)); refine zl (cs := #[.int .i8 t448, .int .i8 0, .slice none 0 0]) ?_ 1 _ rfl; (with_reducible repeat (first | refine zc ?_ _ | refine zd ?_ | refine zb ?_ _)); refine zl (cs := #[.int .i8 0, .int .i8 0, .slice none 0 0]) ?_ 0 _ rfl; (with_reducible repeat (first | refine zc ?_ _ | refine zd ?_ | refine zb ?_ _)); exact BK453.out) hb); have n2_ := za.mk (ze sB hb); have n3_ := za.mk hbox; have n4_ := gB hg; have n5_ := n4_; have n6_ := za.mk ((by rw [hg]; exact Nat.ne_of_lt (zdb (g := gb453) (o := .cells #[.int .i8 t448, .int .i8 t449, .slice Ao25 t450.length co25] 28 (0, 0)) (by (with_reducible repeat (first | refine zc ?_ _ | refine zd ?_ | refine zb ?_ _)); refine zl (cs := #[.int .i8 t448, .int .i8 t449, .slice none 0 0]) ?_ 2 _ rfl; (with_reducible repeat (first | refine zc ?_ _ | refine zd ?_ | refine zb ?_ _)); refine zl (cs := #[.int .i8 t448, .int .i8 0, .slice none 0 0]) ?_ 1 _ rfl; (with_reducible repeat (first | refine zc ?_ _ | refine zd ?_ | refine zb ?_ _)); refine zl (cs := #[.int .i8 0, .int .i8 0, .slice none 0 0]) ?_ 0 _ rfl; (with_reducible repeat (first | refine zc ?_ _ | refine zd ?_ | refine zb ?_ _)); exact BK453.out)) : gb453 ≠ gb454)); have n7_ := za.mk n6_.out.symm; clear HO452; clear BK453; clear HB; have HO452 := n0_; have BK453 := n1_; have HB := n2_; have BK454 := n3_; have GW454 := n4_; have GE454 := n5_; have NB453_454 := n6_; have NB454_453 := n7_; clear n0_ n1_ n2_ n3_ n4_ n5_ n6_ n7_; clear hb hbox hg; have hnb27 := NB454_453.out; have hnc27 := NB453_454.out; obtain ⟨hcz28_0, hcz28_1, hcz28_2, hcz28_3⟩ := xc4 BK454; obtain ⟨hfz28_0, hfz28_1, hfz28_2, hfz28_3⟩ := xf4 BK454; obtain ⟨hcz29_0, hcz29_1, hcz29_2⟩ := xc3 BK453; obtain ⟨hfz29_0, hfz29_1, hfz29_2⟩ := xf3 BK453) | (go_at_call 24; (with_reducible refine (spec_CasesOf.calls kj2 (IntKind.i8.wrap ((t450.length : Int))) t449 true false t455 t458 _ A18.out).mono ?_); rintro e w30 ⟨v456, rfl, ho0, hb⟩; have n0_ := za.mk (Kd.R_below (by (with_reducible repeat (first | apply Kd.R_alloc | apply Kd.R_drewN | apply Kd.R_drew)); exact (Kd.R_mono (Kd.R_far (p := ⟨gb454, 3, none⟩) (Kd.R_far (p := ⟨gb454, 2, none⟩) (Kd.R_far (p := ⟨gb454, 1, none⟩) (Kd.R_far (p := ⟨gb454, 0, none⟩) (Kd.R_types HO452.out BK454.out (by decide)) (fun _ hk => hk.2) (.int .i8 (IntKind.i8.wrap ((t450.length : Int))))) (fun _ hk => hk.2) (.int .i8 t449)) (fun _ hk => hk.2) (.bool true)) (fun _ hk => hk.2) (.bool false)) (fun _ h_ => h_.1))) hb); have n1_ := za.mk (Kd.R_lower ho0 (zv sB)); have n2_ := za.mk (zr (g := gb453) (o := .cells #[.int .i8 t448, .int .i8 t449, .slice Ao25 t450.length co25] 28 (0, 0)) (by (with_reducible repeat (first | refine zc ?_ _ | refine zd ?_ | refine zb ?_ _)); refine zm ?_ NB453_454.out _; (with_reducible repeat (first | refine zc ?_ _ | refine zd ?_ | refine zb ?_ _)); refine zm ?_ NB453_454.out _; (with_reducible repeat (first | refine zc ?_ _ | refine zd ?_ | refine zb ?_ _)); refine zm ?_ NB453_454.out _; (with_reducible repeat (first | refine zc ?_ _ | refine zd ?_ | refine zb ?_ _)); refine zm ?_ NB453_454.out _; (with_reducible repeat (first | refine zc ?_ _ | refine zd ?_ | refine zb ?_ _)); exact BK453.out) hb); have n3_ := za.mk (zr (g := gb454) (o := .cells #[.int .i8 (IntKind.i8.wrap ((t450.length : Int))), .int .i8 t449, .bool true, .bool false] 50 (0, 0)) (by (with_reducible repeat (first | refine zc ?_ _ | refine zd ?_ | refine zb ?_ _)); refine zl (cs := #[.int .i8 (IntKind.i8.wrap ((t450.length : Int))), .int .i8 t449, .bool true, .bool false]) ?_ 3 _ rfl; (with_reducible repeat (first | refine zc ?_ _ | refine zd ?_ | refine zb ?_ _)); refine zl (cs := #[.int .i8 (IntKind.i8.wrap ((t450.length : Int))), .int .i8 t449, .bool false, .bool false]) ?_ 2 _ rfl; (with_reducible repeat (first | refine zc ?_ _ | refine zd ?_ | refine zb ?_ _)); refine zl (cs := #[.int .i8 (IntKind.i8.wrap ((t450.length : Int))), .int .i8 0, .bool false, .bool false]) ?_ 1 _ rfl; (with_reducible repeat (first | refine zc ?_ _ | refine zd ?_ | refine zb ?_ _)); refine zl (cs := #[.int .i8 0, .int .i8 0, .bool false, .bool false]) ?_ 0 _ rfl; (with_reducible repeat (first | refine zc ?_ _ | refine zd ?_ | refine zb ?_ _)); exact BK454.out) hb); have n4_ := za.mk (ze sB hb); clear HO452; clear BK453; clear BK454; clear HB; have HO452 := n0_; have HO457 := n1_; have BK453 := n2_; have BK454 := n3_; have HB := n4_; clear n0_ n1_ n2_ n3_ n4_; try clear hb; obtain ⟨hcz31_0, hcz31_1, hcz31_2⟩ := xc3 BK453; obtain ⟨hfz31_0, hfz31_1, hfz31_2⟩ := xf3 BK453) | (go_at_call 18; (with_reducible refine (impl_LeastDistance.calls kj2 t448 t449 _ _ t450 t459 t460 _ ?side1 ?side2 A19.out).mono ?_); (case side1 => exact uQ HO452); (case side2 => exact (Kd.R_reads' HO452.out).2.1); rintro e w32 ⟨rfl, hb⟩; replace HO452 := dR HO452 hb; replace HO457 := dR HO457 hb; replace BK453 := dK BK453 hb; replace BK454 := dK BK454 hb; replace HB := za.mk (ze sB hb); try clear hb; obtain ⟨hcz33_0, hcz33_1, hcz33_2⟩ := xc3 BK453; obtain ⟨hfz33_0, hfz33_1, hfz33_2⟩ := xf3 BK453) | (go_at_call 29; (with_reducible refine (spec_LeastDistance.calls kj2 t448 t449 _ _ t450 t461 t462 _ ?side1 ?side2 A20.out).mono ?_); (case side1 => exact uQ HO452); (case side2 => exact (Kd.R_reads' HO452.out).2.1); rintro e w34 ⟨rfl, hb⟩; replace HO452 := dR HO452 hb; replace HO457 := dR HO457 hb; replace BK453 := dK BK453 hb; replace BK454 := dK BK454 hb; replace HB := za.mk (ze sB hb); try clear hb)))
   (try simp only [Act.put, List.setIfInBounds_toArray, List.set_cons_zero, List.set_cons_succ])
   go_cut [74] (fun v74 wc => ∃ (kq : Nat) (x74_20 : Bool), v74 = .bool x74_20 ∧ za (laws_FnNear.j1 kq l1 t455 t461 x74_20 t448 t449 t450 = some true) ∧ za (kq ≤ kj2) ∧ za (Kd.R k38 38 wc w.heap.size (fun _ => True) v456 t455) ∧ za (Kd.R k43 43 wc w.heap.size (fun _ => True) (.slice Ao25 t450.length co25) t450) ∧ za (wc.heap[gb453]? = some (.cells #[.int .i8 t448, .int .i8 t449, (.slice Ao25 t450.length co25)] 28 (0, 0))) ∧ za (wc.heap[gb454]? = some (.cells #[.int .i8 (IntKind.i8.wrap ((t450.length : Int))), .int .i8 t449, .bool true, .bool false] 50 (0, 0))) ∧ za (Below w.heap.size w wc))
   case first =>
    have H := HC21.out
    clear HC21
    by_cases c35 : t458 = 0
    ·rw [if_pos c35] at H
     have c35b0 : (t458 == 0) = true := beq_iff_eq.mpr c35
     have c35b1 : (t458 != 0) = false := bne_eq_false_iff_eq.mpr c35
     clear c35
     (first | rw [c35b0] | (simp only [zda, zfa]; rw [c35b0]) | skip)
     by_cases c36 : t460 = t462
     ·rw [if_pos c36] at H
      have c36b0 : (t460 == t462) = true := beq_iff_eq.mpr c36
      have c36b1 : (t460 != t462) = false := bne_eq_false_iff_eq.mpr c36
      clear c36
      by_cases c37 : t460 = 0
      ·rw [if_pos c37] at H
       have c37b0 : (t460 == 0) = true := beq_iff_eq.mpr c37
       have c37b1 : (t460 != 0) = false := bne_eq_false_iff_eq.mpr c37
       clear c37
       have H' := za.mk H
       clear H
       go_wp2
       repeat (go_quiet (fail); try go_wp2)
       go_meet
       case rel => exact ⟨_, ((t459 != t461)), (by first | rfl | (simp; done) | (simp [*]; done)), H', ⟨by have := HJ2.out; first | omega | exact Nat.le_refl _⟩, ⟨uR HO457⟩, ⟨uR HO452⟩, ⟨uK BK453⟩, ⟨uK BK454⟩, ⟨sB⟩⟩
      rw [if_neg c37] at H
      have c37b0 : (t460 == 0) = false := beq_eq_false_iff_ne.mpr c37
      have c37b1 : (t460 != 0) = true := bne_iff_ne.mpr c37
      exact absurd H (by cases kj2 <;> simp [laws_FnNear.j1])
     rw [if_neg c36] at H
     have c36b0 : (t460 == t462) = false := beq_eq_false_iff_ne.mpr c36
     have c36b1 : (t460 != t462) = true := bne_iff_ne.mpr c36
     exact absurd H (by cases kj2 <;> simp [laws_FnNear.j1])
    rw [if_neg c35] at H
    have c35b0 : (t458 == 0) = false := beq_eq_false_iff_ne.mpr c35
    have c35b1 : (t458 != 0) = true := bne_iff_ne.mpr c35
    (first | rw [c35b0] | (simp only [zda, zfa]; rw [c35b0]) | skip)
    exact absurd H (by cases kj2 <;> simp [laws_FnNear.j1])
   case rest =>
    clear HC21
    try clear c1
    try clear c2
    try clear p2
    try clear c3
    try clear c4
    try clear c5
    try clear c7
    try clear c9
    try clear c9b0
    try clear c9b1
    try clear c15
    try clear c27
    try clear c35
    try clear c35b0
    try clear c35b1
    try clear c36
    try clear c36b0
    try clear c36b1
    try clear c37
    try clear c37b0
    try clear c37b1
    try clear hcz12_0 hcz12_1 hcz12_2
    try clear hcz16_0 hcz16_1 hcz16_2 hcz16_3
    try clear hcz17_0 hcz17_1 hcz17_2
    try clear hcz24_0 hcz24_1 hcz24_2
    try clear hcz28_0 hcz28_1 hcz28_2 hcz28_3
    try clear hcz29_0 hcz29_1 hcz29_2
    try clear hcz31_0 hcz31_1 hcz31_2
    try clear hcz33_0 hcz33_1 hcz33_2
    try clear hfz12_0 hfz12_1 hfz12_2
    try clear hfz16_0 hfz16_1 hfz16_2 hfz16_3
    try clear hfz17_0 hfz17_1 hfz17_2
    try clear hfz24_0 hfz24_1 hfz24_2
    try clear hfz28_0 hfz28_1 hfz28_2 hfz28_3
    try clear hfz29_0 hfz29_1 hfz29_2
    try clear hfz31_0 hfz31_1 hfz31_2
    try clear hfz33_0 hfz33_1 hfz33_2
    try clear p2
    obtain ⟨kq, x74_20, rfl, HA, HJ20, HO_7, HO_454002, BK453, BK454, HB⟩ := hcut
    cases kq with
    | zero => exact absurd HA.out (by simp [laws_FnNear.j1])
    | succ kj20 =>
     have H := HA.out
     clear HA
     simp only [laws_FnNear.j1] at H
     by_cases c38 : x74_20 = true
     ·subst c38
      have H1 : (some false) = some true := by rw [if_pos rfl] at H; exact H
      clear H
      have H := H1
      clear H1
      exact absurd H (by simp)
     replace c38 := Bool.eq_false_iff.mpr c38
     subst c38
     have H1 : ((spec_P6Pick.f l1 (t455.length : Int)).bind fun t463 => (if 0 ≤ t463 then (if t463 < (t455.length : Int) then ((spec_SeenOf.f kj20 t448 t449 t450 ((zf t455 t463).f0) ((zf t455 t463).f1)).bind fun bt466 => (laws_FnNear.l0 kj20 l1 t461 bt466.2.2.2.2 0 0 t448 t449 t450 ((zf t455 t463).f0) ((zf t455 t463).f1) bt466.1 bt466.2.1 bt466.2.2.1 bt466.2.2.2.1 bt466.1 bt466.2.1 bt466.2.2.1 bt466.2.2.2.1)) else (none)) else (none))) = some true := by rw [if_neg (show ¬ (false = true) by decide)] at H; exact H
     clear H
     have H := H1
     clear H1
     replace H := Option.bind_eq_some_iff.mp H
     obtain ⟨t463, A390, H⟩ := H
     replace H : (if 0 ≤ t463 then (if t463 < (t455.length : Int) then ((spec_SeenOf.f kj20 t448 t449 t450 ((zf t455 t463).f0) ((zf t455 t463).f1)).bind fun bt466 => (laws_FnNear.l0 kj20 l1 t461 bt466.2.2.2.2 0 0 t448 t449 t450 ((zf t455 t463).f0) ((zf t455 t463).f1) bt466.1 bt466.2.1 bt466.2.2.1 bt466.2.2.2.1 bt466.1 bt466.2.1 bt466.2.2.1 bt466.2.2.2.1)) else (none)) else (none)) = some true := H
     have A39 := za.mk A390
     clear A390
     by_cases c40 : 0 ≤ t463
     ·rw [if_pos c40] at H
      have c40b0 : decide (0 ≤ t463) = true := decide_eq_true c40
      clear c40
      by_cases c41 : t463 < (t455.length : Int)
      ·rw [if_pos c41] at H
       have c41b0 : decide (t463 < (t455.length : Int)) = true := decide_eq_true c41
       clear c41
       replace H := Option.bind_eq_some_iff.mp H
       obtain ⟨⟨t466, t467, t468, t469, t470⟩, A420, H⟩ := H
       replace H : (laws_FnNear.l0 kj20 l1 t461 t470 0 0 t448 t449 t450 ((zf t455 t463).f0) ((zf t455 t463).f1) t466 t467 t468 t469 t466 t467 t468 t469) = some true := H
       have A42 := za.mk A420
       clear A420
       have H' := za.mk H
       clear H
       obtain ⟨Ao43, co43, eo43⟩ := Kd.R_slice HO_7.out
       subst eo43
       go_wp2_with (first | (go_at_call 7; (with_reducible refine (spec_P6Pick.calls _ _ l1 (t455.length : Int) t463 _ ?side1 ?side2 A39.out).mono ?_); (case side1 => exact uC HR1 HB); (case side2 => exact HC1.out); rintro e w44 ⟨rfl, hb⟩; replace HO_7 := dR HO_7 hb; replace HO_454002 := dR HO_454002 hb; replace BK453 := dK BK453 hb; replace BK454 := dK BK454 hb; replace HB := za.mk (ze sB hb); try clear hb; have p464 : 0 ≤ (t463 : Int) := of_decide_eq_true (by first | (with_reducible assumption) | assumption); have q464 : t463 < (t455.length : Int) := of_decide_eq_true (by first | (with_reducible assumption) | assumption); obtain ⟨ad464, e464, hx464_0, hx464_1⟩ := zsb (Kd.R_reads' HO_7.out).2.2 t463 p464 q464; cases e464; replace p464 := eq_true p464; replace q464 := eq_true q464) | ((with_reducible refine zn (N := 13) rfl ?_); refine bx (N := 13) #[.int .i8 0, .bool false] 38 rfl ?_; intro gb465 hg w45 hbox hb; have BK465 := za.mk hbox; have GW465 := gB hg; have GE465 := GW465; have NB453_465 := nK hg BK453; have NB465_453 := za.mk NB453_465.out.symm; have NB454_465 := nK hg BK454; have NB465_454 := za.mk NB454_465.out.symm; replace HO_7 := za.mk (Kd.R_below (Kd.R_elderB (uR HO_7) gb465 (Nat.le_of_eq hg.symm)) hb); replace HO_454002 := dR HO_454002 hb; replace BK453 := dK BK453 hb; replace BK454 := dK BK454 hb; replace HB := za.mk (ze sB hb); clear hb hbox hg; have hnb46 := NB465_453.out; have hnc46 := NB453_465.out; have hnb47 := NB465_454.out; have hnc47 := NB454_465.out; obtain ⟨hcz48_0, hcz48_1⟩ := xc2 BK465; obtain ⟨hfz48_0, hfz48_1⟩ := xf2 BK465; have hnb49 := NB453_454.out; have hnc49 := NB454_453.out; obtain ⟨hcz50_0, hcz50_1, hcz50_2⟩ := xc3 BK453; obtain ⟨hfz50_0, hfz50_1, hfz50_2⟩ := xf3 BK453) | (go_at_call 26; (with_reducible refine (spec_SeenOf.calls kj20 t448 t449 _ _ t450 ((zf t455 t463).f0) ((zf t455 t463).f1) t466 t467 t468 t469 t470 _ ?side1 ?side2 A42.out).mono ?_); (case side1 => refine (Kd.R_reads' (e := 43) (base := w.heap.size) (ok := fun k_ => True) (n := t450.length) (c := co25) ?_).2.2; exact (uR' (Kd.R_mono (Kd.R_far (p := ⟨gb465, 1, none⟩) (Kd.R_far (p := ⟨gb465, 0, none⟩) (Kd.R_types HO_454002.out BK465.out (by decide)) (fun _ hk => hk.2) (.int .i8 ((zf t455 t463).f0))) (fun _ hk => hk.2) (.bool ((zf t455 t463).f1))) (fun _ h_ => h_.1)))); (case side2 => exact (Kd.R_reads' HO_454002.out).2.1); rintro e w51 ⟨rfl, hb⟩; have n0_ := za.mk (Kd.R_below (uR' (Kd.R_mono (Kd.R_far (p := ⟨gb465, 1, none⟩) (Kd.R_far (p := ⟨gb465, 0, none⟩) (Kd.R_mono HO_7.out (fun k_ hk => (⟨hk, hk.2⟩ : _ ∧ k_ ≠ gb465))) (fun _ hk => hk.2) (.int .i8 ((zf t455 t463).f0))) (fun _ hk => hk.2) (.bool ((zf t455 t463).f1))) (fun _ h_ => h_.1))) hb); have n1_ := za.mk (Kd.R_below (uR' (Kd.R_mono (Kd.R_far (p := ⟨gb465, 1, none⟩) (Kd.R_far (p := ⟨gb465, 0, none⟩) (Kd.R_types HO_454002.out BK465.out (by decide)) (fun _ hk => hk.2) (.int .i8 ((zf t455 t463).f0))) (fun _ hk => hk.2) (.bool ((zf t455 t463).f1))) (fun _ h_ => h_.1))) hb); have n2_ := za.mk (zr (g := gb453) (o := .cells #[.int .i8 t448, .int .i8 t449, .slice Ao25 t450.length co25] 28 (0, 0)) (by (with_reducible repeat (first | refine zc ?_ _ | refine zd ?_ | refine zb ?_ _)); refine zm ?_ NB453_465.out _; (with_reducible repeat (first | refine zc ?_ _ | refine zd ?_ | refine zb ?_ _)); refine zm ?_ NB453_465.out _; (with_reducible repeat (first | refine zc ?_ _ | refine zd ?_ | refine zb ?_ _)); exact BK453.out) hb); have n3_ := za.mk (zr (g := gb454) (o := .cells #[.int .i8 (IntKind.i8.wrap ((t450.length : Int))), .int .i8 t449, .bool true, .bool false] 50 (0, 0)) (by (with_reducible repeat (first | refine zc ?_ _ | refine zd ?_ | refine zb ?_ _)); refine zm ?_ NB454_465.out _; (with_reducible repeat (first | refine zc ?_ _ | refine zd ?_ | refine zb ?_ _)); refine zm ?_ NB454_465.out _; (with_reducible repeat (first | refine zc ?_ _ | refine zd ?_ | refine zb ?_ _)); exact BK454.out) hb); have n4_ := za.mk (zr (g := gb465) (o := .cells #[.int .i8 ((zf t455 t463).f0), .bool ((zf t455 t463).f1)] 38 (0, 0)) (by (with_reducible repeat (first | refine zc ?_ _ | refine zd ?_ | refine zb ?_ _)); refine zl (cs := #[.int .i8 ((zf t455 t463).f0), .bool false]) ?_ 1 _ rfl; (with_reducible repeat (first | refine zc ?_ _ | refine zd ?_ | refine zb ?_ _)); refine zl (cs := #[.int .i8 0, .bool false]) ?_ 0 _ rfl; (with_reducible repeat (first | refine zc ?_ _ | refine zd ?_ | refine zb ?_ _)); exact BK465.out) hb); have n5_ := za.mk (ze sB hb); clear HO_7; clear HO_454002; clear BK453; clear BK454; clear BK465; clear HB; have HO_7 := n0_; have HO_454002 := n1_; have BK453 := n2_; have BK454 := n3_; have BK465 := n4_; have HB := n5_; clear n0_ n1_ n2_ n3_ n4_ n5_; try clear hb) | ((with_reducible refine zn (N := 14) rfl ?_); refine bx (N := 14) #[.int .i8 0, .int .i8 0, .int .i8 0, .int .i8 0] 43 rfl ?_; intro gb471 hg w52 hbox hb; have BK471 := za.mk hbox; have GW471 := gB hg; have GE471 := GW471; have NB453_471 := nK hg BK453; have NB471_453 := za.mk NB453_471.out.symm; have NB454_471 := nK hg BK454; have NB471_454 := za.mk NB454_471.out.symm; have NB465_471 := nK hg BK465; have NB471_465 := za.mk NB465_471.out.symm; replace HO_7 := dR HO_7 hb; replace HO_454002 := za.mk (Kd.R_below (Kd.R_elderB (uR HO_454002) gb471 (Nat.le_of_eq hg.symm)) hb); replace BK453 := dK BK453 hb; replace BK454 := dK BK454 hb; replace BK465 := dK BK465 hb; replace HB := za.mk (ze sB hb); clear hb hbox hg; have hnb53 := NB471_453.out; have hnc53 := NB453_471.out; have hnb54 := NB471_454.out; have hnc54 := NB454_471.out; have hnb55 := NB471_465.out; have hnc55 := NB465_471.out; obtain ⟨hcz56_0, hcz56_1, hcz56_2, hcz56_3⟩ := xc4 BK471; obtain ⟨hfz56_0, hfz56_1, hfz56_2, hfz56_3⟩ := xf4 BK471) | ((with_reducible refine zn (N := 16) rfl ?_); refine bx (N := 16) #[.int .i8 0, .int .i8 0, .int .i8 0, .int .i8 0] 43 rfl ?_; intro gb472 hg w57 hbox hb; have n0_ := za.mk (Kd.R_below (by (with_reducible repeat (first | apply Kd.R_alloc | apply Kd.R_drewN | apply Kd.R_drew)); exact (Kd.R_mono (Kd.R_far (p := ⟨gb471, 3, none⟩) (Kd.R_far (p := ⟨gb471, 2, none⟩) (Kd.R_far (p := ⟨gb471, 1, none⟩) (Kd.R_far (p := ⟨gb471, 0, none⟩) (Kd.R_types HO_7.out BK471.out (by decide)) (fun _ hk => hk.2) (.int .i8 t466)) (fun _ hk => hk.2) (.int .i8 t467)) (fun _ hk => hk.2) (.int .i8 t468)) (fun _ hk => hk.2) (.int .i8 t469)) (fun _ h_ => h_.1))) hb); have n1_ := za.mk (Kd.R_below (Kd.R_elderB (by (with_reducible repeat (first | apply Kd.R_alloc | apply Kd.R_drewN | apply Kd.R_drew)); exact (Kd.R_mono (Kd.R_far (p := ⟨gb471, 3, none⟩) (Kd.R_far (p := ⟨gb471, 2, none⟩) (Kd.R_far (p := ⟨gb471, 1, none⟩) (Kd.R_far (p := ⟨gb471, 0, none⟩) (Kd.R_mono HO_454002.out (fun k_ hk => (⟨hk, hk.2⟩ : _ ∧ k_ ≠ gb471))) (fun _ hk => hk.2) (.int .i8 t466)) (fun _ hk => hk.2) (.int .i8 t467)) (fun _ hk => hk.2) (.int .i8 t468)) (fun _ hk => hk.2) (.int .i8 t469)) (fun _ h_ => h_.1))) gb472 (Nat.le_of_eq hg.symm)) hb); have n2_ := za.mk (zr (g := gb453) (o := .cells #[.int .i8 t448, .int .i8 t449, .slice Ao25 t450.length co25] 28 (0, 0)) (by (with_reducible repeat (first | refine zc ?_ _ | refine zd ?_ | refine zb ?_ _)); refine zm ?_ NB453_471.out _; (with_reducible repeat (first | refine zc ?_ _ | refine zd ?_ | refine zb ?_ _)); refine zm ?_ NB453_471.out _; (with_reducible repeat (first | refine zc ?_ _ | refine zd ?_ | refine zb ?_ _)); refine zm ?_ NB453_471.out _; (with_reducible repeat (first | refine zc ?_ _ | refine zd ?_ | refine zb ?_ _)); refine zm ?_ NB453_471.out _; (with_reducible repeat (first | refine zc ?_ _ | refine zd ?_ | refine zb ?_ _)); exact BK453.out) hb); have n3_ := za.mk (zr (g := gb454) (o := .cells #[.int .i8 (IntKind.i8.wrap ((t450.length : Int))), .int .i8 t449, .bool true, .bool false] 50 (0, 0)) (by (with_reducible repeat (first | refine zc ?_ _ | refine zd ?_ | refine zb ?_ _)); refine zm ?_ NB454_471.out _; (with_reducible repeat (first | refine zc ?_ _ | refine zd ?_ | refine zb ?_ _)); refine zm ?_ NB454_471.out _; (with_reducible repeat (first | refine zc ?_ _ | refine zd ?_ | refine zb ?_ _)); refine zm ?_ NB454_471.out _; (with_reducible repeat (first | refine zc ?_ _ | refine zd ?_ | refine zb ?_ _)); refine zm ?_ NB454_471.out _; (with_reducible repeat (first | refine zc ?_ _ | refine zd ?_ | refine zb ?_ _)); exact BK454.out) hb); have n4_ := za.mk (zr (g := gb465) (o := .cells #[.int .i8 ((zf t455 t463).f0), .bool ((zf t455 t463).f1)] 38 (0, 0)) (by (with_reducible repeat (first | refine zc ?_ _ | refine zd ?_ | refine zb ?_ _)); refine zm ?_ NB465_471.out _; (with_reducible repeat (first | refine zc ?_ _ | refine zd ?_ | refine zb ?_ _)); refine zm ?_ NB465_471.out _; (with_reducible repeat (first | refine zc ?_ _ | refine zd ?_ | refine zb ?_ _)); refine zm ?_ NB465_471.out _; (with_reducible repeat (first | refine zc ?_ _ | refine zd ?_ | refine zb ?_ _)); refine zm ?_ NB465_471.out _; (with_reducible repeat (first | refine zc ?_ _ | refine zd ?_ | refine zb ?_ _)); exact BK465.out) hb); have n5_ := za.mk (zr (g := gb471) (o := .cells #[.int .i8 t466, .int .i8 t467, .int .i8 t468, .int .i8 t469] 43 (0, 0)) (by (with_reducible repeat (first | refine zc ?_ _ | refine zd ?_ | refine zb ?_ _)); refine zl (cs := #[.int .i8 t466, .int .i8 t467, .int .i8 t468, .int .i8 0]) ?_ 3 _ rfl; (with_reducible repeat (first | refine zc ?_ _ | refine zd ?_ | refine zb ?_ _)); refine zl (cs := #[.int .i8 t466, .int .i8 t467, .int .i8 0, .int .i8 0]) ?_ 2 _ rfl; (with_reducible repeat (first | refine zc ?_ _ | refine zd ?_ | refine zb ?_ _)); refine zl (cs := #[.int .i8 t466, .int .i8 0, .int .i8 0, .int .i8 0]) ?_ 1 _ rfl; (with_reducible repeat (first | refine zc ?_ _ | refine zd ?_ | refine zb ?_ _)); refine zl (cs := #[.int .i8 0, .int .i8 0, .int .i8 0, .int .i8 0]) ?_ 0 _ rfl; (with_reducible repeat (first | refine zc ?_ _ | refine zd ?_ | refine zb ?_ _)); exact BK471.out) hb); have n6_ := za.mk (ze sB hb); have n7_ := za.mk hbox; have n8_ := gB hg; have n9_ := n8_; have n10_ := za.mk ((by rw [hg]; exact Nat.ne_of_lt (zdb (g := gb453) (o := .cells #[.int .i8 t448, .int .i8 t449, .slice Ao25 t450.length co25] 28 (0, 0)) (by (with_reducible repeat (first | refine zc ?_ _ | refine zd ?_ | refine zb ?_ _)); refine zm ?_ NB453_471.out _; (with_reducible repeat (first | refine zc ?_ _ | refine zd ?_ | refine zb ?_ _)); refine zm ?_ NB453_471.out _; (with_reducible repeat (first | refine zc ?_ _ | refine zd ?_ | refine zb ?_ _)); refine zm ?_ NB453_471.out _; (with_reducible repeat (first | refine zc ?_ _ | refine zd ?_ | refine zb ?_ _)); refine zm ?_ NB453_471.out _; (with_reducible repeat (first | refine zc ?_ _ | refine zd ?_ | refine zb ?_ _)); exact BK453.out)) : gb453 ≠ gb472)); have n11_ := za.mk n10_.out.symm; have n12_ := za.mk ((by rw [hg]; exact Nat.ne_of_lt (zdb (g := gb454) (o := .cells #[.int .i8 (IntKind.i8.wrap ((t450.length : Int))), .int .i8 t449, .bool true, .bool false] 50 (0, 0)) (by (with_reducible repeat (first | refine zc ?_ _ | refine zd ?_ | refine zb ?_ _)); refine zm ?_ NB454_471.out _; (with_reducible repeat (first | refine zc ?_ _ | refine zd ?_ | refine zb ?_ _)); refine zm ?_ NB454_471.out _; (with_reducible repeat (first | refine zc ?_ _ | refine zd ?_ | refine zb ?_ _)); refine zm ?_ NB454_471.out _; (with_reducible repeat (first | refine zc ?_ _ | refine zd ?_ | refine zb ?_ _)); refine zm ?_ NB454_471.out _; (with_reducible repeat (first | refine zc ?_ _ | refine zd ?_ | refine zb ?_ _)); exact BK454.out)) : gb454 ≠ gb472)); have n13_ := za.mk n12_.out.symm; have n14_ := za.mk ((by rw [hg]; exact Nat.ne_of_lt (zdb (g := gb465) (o := .cells #[.int .i8 ((zf t455 t463).f0), .bool ((zf t455 t463).f1)] 38 (0, 0)) (by (with_reducible repeat (first | refine zc ?_ _ | refine zd ?_ | refine zb ?_ _)); refine zm ?_ NB465_471.out _; (with_reducible repeat (first | refine zc ?_ _ | refine zd ?_ | refine zb ?_ _)); refine zm ?_ NB465_471.out _; (with_reducible repeat (first | refine zc ?_ _ | refine zd ?_ | refine zb ?_ _)); refine zm ?_ NB465_471.out _; (with_reducible repeat (first | refine zc ?_ _ | refine zd ?_ | refine zb ?_ _)); refine zm ?_ NB465_471.out _; (with_reducible repeat (first | refine zc ?_ _ | refine zd ?_ | refine zb ?_ _)); exact BK465.out)) : gb465 ≠ gb472)); have n15_ := za.mk n14_.out.symm; have n16_ := za.mk ((by rw [hg]; exact Nat.ne_of_lt (zdb (g := gb471) (o := .cells #[.int .i8 t466, .int .i8 t467, .int .i8 t468, .int .i8 t469] 43 (0, 0)) (by (with_reducible repeat (first | refine zc ?_ _ | refine zd ?_ | refine zb ?_ _)); refine zl (cs := #[.int .i8 t466, .int .i8 t467, .int .i8 t468, .int .i8 0]) ?_ 3 _ rfl; (with_reducible repeat (first | refine zc ?_ _ | refine zd ?_ | refine zb ?_ _)); refine zl (cs := #[.int .i8 t466, .int .i8 t467, .int .i8 0, .int .i8 0]) ?_ 2 _ rfl; (with_reducible repeat (first | refine zc ?_ _ | refine zd ?_ | refine zb ?_ _)); refine zl (cs := #[.int .i8 t466, .int .i8 0, .int .i8 0, .int .i8 0]) ?_ 1 _ rfl; (with_reducible repeat (first | refine zc ?_ _ | refine zd ?_ | refine zb ?_ _)); refine zl (cs := #[.int .i8 0, .int .i8 0, .int .i8 0, .int .i8 0]) ?_ 0 _ rfl; (with_reducible repeat (first | refine zc ?_ _ | refine zd ?_ | refine zb ?_ _)); exact BK471.out)) : gb471 ≠ gb472)); have n17_ := za.mk n16_.out.symm; clear HO_7; clear HO_454002; clear BK453; clear BK454; clear BK465; clear BK471; clear HB; have HO_7 := n0_; have HO_454002 := n1_; have BK453 := n2_; have BK454 := n3_; have BK465 := n4_; have BK471 := n5_; have HB := n6_; have BK472 := n7_; have GW472 := n8_; have GE472 := n9_; have NB453_472 := n10_; have NB472_453 := n11_; have NB454_472 := n12_; have NB472_454 := n13_; have NB465_472 := n14_; have NB472_465 := n15_; have NB471_472 := n16_; have NB472_471 := n17_; clear n0_ n1_ n2_ n3_ n4_ n5_ n6_ n7_ n8_ n9_ n10_ n11_ n12_ n13_ n14_ n15_ n16_ n17_; clear hb hbox hg; have hnb58 := NB472_453.out; have hnc58 := NB453_472.out; have hnb59 := NB472_454.out; have hnc59 := NB454_472.out; have hnb60 := NB472_465.out; have hnc60 := NB465_472.out; have hnb61 := NB472_471.out; have hnc61 := NB471_472.out; obtain ⟨hcz62_0, hcz62_1, hcz62_2, hcz62_3⟩ := xc4 BK472; obtain ⟨hfz62_0, hfz62_1, hfz62_2, hfz62_3⟩ := xf4 BK472))
       repeat (go_quiet (fail); try go_wp2_with (first | (go_at_call 7; (with_reducible refine (spec_P6Pick.calls _ _ l1 (t455.length : Int) t463 _ ?side1 ?side2 A39.out).mono ?_); (case side1 => exact uC HR1 HB); (case side2 => exact HC1.out); rintro e w44 ⟨rfl, hb⟩; replace HO_7 := dR HO_7 hb; replace HO_454002 := dR HO_454002 hb; replace BK453 := dK BK453 hb; replace BK454 := dK BK454 hb; replace HB := za.mk (ze sB hb); try clear hb; have p464 : 0 ≤ (t463 : Int) := of_decide_eq_true (by first | (with_reducible assumption) | assumption); have q464 : t463 < (t455.length : Int) := of_decide_eq_true (by first | (with_reducible assumption) | assumption); obtain ⟨ad464, e464, hx464_0, hx464_1⟩ := zsb (Kd.R_reads' HO_7.out).2.2 t463 p464 q464; cases e464; replace p464 := eq_true p464; replace q464 := eq_true q464) | ((with_reducible refine zn (N := 13) rfl ?_); refine bx (N := 13) #[.int .i8 0, .bool false] 38 rfl ?_; intro gb465 hg w45 hbox hb; have BK465 := za.mk hbox; have GW465 := gB hg; have GE465 := GW465; have NB453_465 := nK hg BK453; have NB465_453 := za.mk NB453_465.out.symm; have NB454_465 := nK hg BK454; have NB465_454 := za.mk NB454_465.out.symm; replace HO_7 := za.mk (Kd.R_below (Kd.R_elderB (uR HO_7) gb465 (Nat.le_of_eq hg.symm)) hb); replace HO_454002 := dR HO_454002 hb; replace BK453 := dK BK453 hb; replace BK454 := dK BK454 hb; replace HB := za.mk (ze sB hb); clear hb hbox hg; have hnb46 := NB465_453.out; have hnc46 := NB453_465.out; have hnb47 := NB465_454.out; have hnc47 := NB454_465.out; obtain ⟨hcz48_0, hcz48_1⟩ := xc2 BK465; obtain ⟨hfz48_0, hfz48_1⟩ := xf2 BK465; have hnb49 := NB453_454.out; have hnc49 := NB454_453.out; obtain ⟨hcz50_0, hcz50_1, hcz50_2⟩ := xc3 BK453; obtain ⟨hfz50_0, hfz50_1, hfz50_2⟩ := xf3 BK453) | (go_at_call 26; (with_reducible refine (spec_SeenOf.calls kj20 t448 t449 _ _ t450 ((zf t455 t463).f0) ((zf t455 t463).f1) t466 t467 t468 t469 t470 _ ?side1 ?side2 A42.out).mono ?_); (case side1 => refine (Kd.R_reads' (e := 43) (base := w.heap.size) (ok := fun k_ => True) (n := t450.length) (c := co25) ?_).2.2; exact (uR' (Kd.R_mono (Kd.R_far (p := ⟨gb465, 1, none⟩) (Kd.R_far (p := ⟨gb465, 0, none⟩) (Kd.R_types HO_454002.out BK465.out (by decide)) (fun _ hk => hk.2) (.int .i8 ((zf t455 t463).f0))) (fun _ hk => hk.2) (.bool ((zf t455 t463).f1))) (fun _ h_ => h_.1)))); (case side2 => exact (Kd.R_reads' HO_454002.out).2.1); rintro e w51 ⟨rfl, hb⟩; have n0_ := za.mk (Kd.R_below (uR' (Kd.R_mono (Kd.R_far (p := ⟨gb465, 1, none⟩) (Kd.R_far (p := ⟨gb465, 0, none⟩) (Kd.R_mono HO_7.out (fun k_ hk => (⟨hk, hk.2⟩ : _ ∧ k_ ≠ gb465))) (fun _ hk => hk.2) (.int .i8 ((zf t455 t463).f0))) (fun _ hk => hk.2) (.bool ((zf t455 t463).f1))) (fun _ h_ => h_.1))) hb); have n1_ := za.mk (Kd.R_below (uR' (Kd.R_mono (Kd.R_far (p := ⟨gb465, 1, none⟩) (Kd.R_far (p := ⟨gb465, 0, none⟩) (Kd.R_types HO_454002.out BK465.out (by decide)) (fun _ hk => hk.2) (.int .i8 ((zf t455 t463).f0))) (fun _ hk => hk.2) (.bool ((zf t455 t463).f1))) (fun _ h_ => h_.1))) hb); have n2_ := za.mk (zr (g := gb453) (o := .cells #[.int .i8 t448, .int .i8 t449, .slice Ao25 t450.length co25] 28 (0, 0)) (by (with_reducible repeat (first | refine zc ?_ _ | refine zd ?_ | refine zb ?_ _)); refine zm ?_ NB453_465.out _; (with_reducible repeat (first | refine zc ?_ _ | refine zd ?_ | refine zb ?_ _)); refine zm ?_ NB453_465.out _; (with_reducible repeat (first | refine zc ?_ _ | refine zd ?_ | refine zb ?_ _)); exact BK453.out) hb); have n3_ := za.mk (zr (g := gb454) (o := .cells #[.int .i8 (IntKind.i8.wrap ((t450.length : Int))), .int .i8 t449, .bool true, .bool false] 50 (0, 0)) (by (with_reducible repeat (first | refine zc ?_ _ | refine zd ?_ | refine zb ?_ _)); refine zm ?_ NB454_465.out _; (with_reducible repeat (first | refine zc ?_ _ | refine zd ?_ | refine zb ?_ _)); refine zm ?_ NB454_465.out _; (with_reducible repeat (first | refine zc ?_ _ | refine zd ?_ | refine zb ?_ _)); exact BK454.out) hb); have n4_ := za.mk (zr (g := gb465) (o := .cells #[.int .i8 ((zf t455 t463).f0), .bool ((zf t455 t463).f1)] 38 (0, 0)) (by (with_reducible repeat (first | refine zc ?_ _ | refine zd ?_ | refine zb ?_ _)); refine zl (cs := #[.int .i8 ((zf t455 t463).f0), .bool false]) ?_ 1 _ rfl; (with_reducible repeat (first | refine zc ?_ _ | refine zd ?_ | refine zb ?_ _)); refine zl (cs := #[.int .i8 0, .bool false]) ?_ 0 _ rfl; (with_reducible repeat (first | refine zc ?_ _ | refine zd ?_ | refine zb ?_ _)); exact BK465.out) hb); have n5_ := za.mk (ze sB hb); clear HO_7; clear HO_454002; clear BK453; clear BK454; clear BK465; clear HB; have HO_7 := n0_; have HO_454002 := n1_; have BK453 := n2_; have BK454 := n3_; have BK465 := n4_; have HB := n5_; clear n0_ n1_ n2_ n3_ n4_ n5_; try clear hb) | ((with_reducible refine zn (N := 14) rfl ?_); refine bx (N := 14) #[.int .i8 0, .int .i8 0, .int .i8 0, .int .i8 0] 43 rfl ?_; intro gb471 hg w52 hbox hb; have BK471 := za.mk hbox; have GW471 := gB hg; have GE471 := GW471; have NB453_471 := nK hg BK453; have NB471_453 := za.mk NB453_471.out.symm; have NB454_471 := nK hg BK454; have NB471_454 := za.mk NB454_471.out.symm; have NB465_471 := nK hg BK465; have NB471_465 := za.mk NB465_471.out.symm; replace HO_7 := dR HO_7 hb; replace HO_454002 := za.mk (Kd.R_below (Kd.R_elderB (uR HO_454002) gb471 (Nat.le_of_eq hg.symm)) hb); replace BK453 := dK BK453 hb; replace BK454 := dK BK454 hb; replace BK465 := dK BK465 hb; replace HB := za.mk (ze sB hb); clear hb hbox hg; have hnb53 := NB471_453.out; have hnc53 := NB453_471.out; have hnb54 := NB471_454.out; have hnc54 := NB454_471.out; have hnb55 := NB471_465.out; have hnc55 := NB465_471.out; obtain ⟨hcz56_0, hcz56_1, hcz56_2, hcz56_3⟩ := xc4 BK471; obtain ⟨hfz56_0, hfz56_1, hfz56_2, hfz56_3⟩ := xf4 BK471) | ((with_reducible refine zn (N := 16) rfl ?_); refine bx (N := 16) #[.int .i8 0, .int .i8 0, .int .i8 0, .int .i8 0] 43 rfl ?_; intro gb472 hg w57 hbox hb; have n0_ := za.mk (Kd.R_below (by (with_reducible repeat (first | apply Kd.R_alloc | apply Kd.R_drewN | apply Kd.R_drew)); exact (Kd.R_mono (Kd.R_far (p := ⟨gb471, 3, none⟩) (Kd.R_far (p := ⟨gb471, 2, none⟩) (Kd.R_far (p := ⟨gb471, 1, none⟩) (Kd.R_far (p := ⟨gb471, 0, none⟩) (Kd.R_types HO_7.out BK471.out (by decide)) (fun _ hk => hk.2) (.int .i8 t466)) (fun _ hk => hk.2) (.int .i8 t467)) (fun _ hk => hk.2) (.int .i8 t468)) (fun _ hk => hk.2) (.int .i8 t469)) (fun _ h_ => h_.1))) hb); have n1_ := za.mk (Kd.R_below (Kd.R_elderB (by (with_reducible repeat (first | apply Kd.R_alloc | apply Kd.R_drewN | apply Kd.R_drew)); exact (Kd.R_mono (Kd.R_far (p := ⟨gb471, 3, none⟩) (Kd.R_far (p := ⟨gb471, 2, none⟩) (Kd.R_far (p := ⟨gb471, 1, none⟩) (Kd.R_far (p := ⟨gb471, 0, none⟩) (Kd.R_mono HO_454002.out (fun k_ hk => (⟨hk, hk.2⟩ : _ ∧ k_ ≠ gb471))) (fun _ hk => hk.2) (.int .i8 t466)) (fun _ hk => hk.2) (.int .i8 t467)) (fun _ hk => hk.2) (.int .i8 t468)) (fun _ hk => hk.2) (.int .i8 t469)) (fun _ h_ => h_.1))) gb472 (Nat.le_of_eq hg.symm)) hb); have n2_ := za.mk (zr (g := gb453) (o := .cells #[.int .i8 t448, .int .i8 t449, .slice Ao25 t450.length co25] 28 (0, 0)) (by (with_reducible repeat (first | refine zc ?_ _ | refine zd ?_ | refine zb ?_ _)); refine zm ?_ NB453_471.out _; (with_reducible repeat (first | refine zc ?_ _ | refine zd ?_ | refine zb ?_ _)); refine zm ?_ NB453_471.out _; (with_reducible repeat (first | refine zc ?_ _ | refine zd ?_ | refine zb ?_ _)); refine zm ?_ NB453_471.out _; (with_reducible repeat (first | refine zc ?_ _ | refine zd ?_ | refine zb ?_ _)); refine zm ?_ NB453_471.out _; (with_reducible repeat (first | refine zc ?_ _ | refine zd ?_ | refine zb ?_ _)); exact BK453.out) hb); have n3_ := za.mk (zr (g := gb454) (o := .cells #[.int .i8 (IntKind.i8.wrap ((t450.length : Int))), .int .i8 t449, .bool true, .bool false] 50 (0, 0)) (by (with_reducible repeat (first | refine zc ?_ _ | refine zd ?_ | refine zb ?_ _)); refine zm ?_ NB454_471.out _; (with_reducible repeat (first | refine zc ?_ _ | refine zd ?_ | refine zb ?_ _)); refine zm ?_ NB454_471.out _; (with_reducible repeat (first | refine zc ?_ _ | refine zd ?_ | refine zb ?_ _)); refine zm ?_ NB454_471.out _; (with_reducible repeat (first | refine zc ?_ _ | refine zd ?_ | refine zb ?_ _)); refine zm ?_ NB454_471.out _; (with_reducible repeat (first | refine zc ?_ _ | refine zd ?_ | refine zb ?_ _)); exact BK454.out) hb); have n4_ := za.mk (zr (g := gb465) (o := .cells #[.int .i8 ((zf t455 t463).f0), .bool ((zf t455 t463).f1)] 38 (0, 0)) (by (with_reducible repeat (first | refine zc ?_ _ | refine zd ?_ | refine zb ?_ _)); refine zm ?_ NB465_471.out _; (with_reducible repeat (first | refine zc ?_ _ | refine zd ?_ | refine zb ?_ _)); refine zm ?_ NB465_471.out _; (with_reducible repeat (first | refine zc ?_ _ | refine zd ?_ | refine zb ?_ _)); refine zm ?_ NB465_471.out _; (with_reducible repeat (first | refine zc ?_ _ | refine zd ?_ | refine zb ?_ _)); refine zm ?_ NB465_471.out _; (with_reducible repeat (first | refine zc ?_ _ | refine zd ?_ | refine zb ?_ _)); exact BK465.out) hb); have n5_ := za.mk (zr (g := gb471) (o := .cells #[.int .i8 t466, .int .i8 t467, .int .i8 t468, .int .i8 t469] 43 (0, 0)) (by (with_reducible repeat (first | refine zc ?_ _ | refine zd ?_ | refine zb ?_ _)); refine zl (cs := #[.int .i8 t466, .int .i8 t467, .int .i8 t468, .int .i8 0]) ?_ 3 _ rfl; (with_reducible repeat (first | refine zc ?_ _ | refine zd ?_ | refine zb ?_ _)); refine zl (cs := #[.int .i8 t466, .int .i8 t467, .int .i8 0, .int .i8 0]) ?_ 2 _ rfl; (with_reducible repeat (first | refine zc ?_ _ | refine zd ?_ | refine zb ?_ _)); refine zl (cs := #[.int .i8 t466, .int .i8 0, .int .i8 0, .int .i8 0]) ?_ 1 _ rfl; (with_reducible repeat (first | refine zc ?_ _ | refine zd ?_ | refine zb ?_ _)); refine zl (cs := #[.int .i8 0, .int .i8 0, .int .i8 0, .int .i8 0]) ?_ 0 _ rfl; (with_reducible repeat (first | refine zc ?_ _ | refine zd ?_ | refine zb ?_ _)); exact BK471.out) hb); have n6_ := za.mk (ze sB hb); have n7_ := za.mk hbox; have n8_ := gB hg; have n9_ := n8_; have n10_ := za.mk ((by rw [hg]; exact Nat.ne_of_lt (zdb (g := gb453) (o := .cells #[.int .i8 t448, .int .i8 t449, .slice Ao25 t450.length co25] 28 (0, 0)) (by (with_reducible repeat (first | refine zc ?_ _ | refine zd ?_ | refine zb ?_ _)); refine zm ?_ NB453_471.out _; (with_reducible repeat (first | refine zc ?_ _ | refine zd ?_ | refine zb ?_ _)); refine zm ?_ NB453_471.out _; (with_reducible repeat (first | refine zc ?_ _ | refine zd ?_ | refine zb ?_ _)); refine zm ?_ NB453_471.out _; (with_reducible repeat (first | refine zc ?_ _ | refine zd ?_ | refine zb ?_ _)); refine zm ?_ NB453_471.out _; (with_reducible repeat (first | refine zc ?_ _ | refine zd ?_ | refine zb ?_ _)); exact BK453.out)) : gb453 ≠ gb472)); have n11_ := za.mk n10_.out.symm; have n12_ := za.mk ((by rw [hg]; exact Nat.ne_of_lt (zdb (g := gb454) (o := .cells #[.int .i8 (IntKind.i8.wrap ((t450.length : Int))), .int .i8 t449, .bool true, .bool false] 50 (0, 0)) (by (with_reducible repeat (first | refine zc ?_ _ | refine zd ?_ | refine zb ?_ _)); refine zm ?_ NB454_471.out _; (with_reducible repeat (first | refine zc ?_ _ | refine zd ?_ | refine zb ?_ _)); refine zm ?_ NB454_471.out _; (with_reducible repeat (first | refine zc ?_ _ | refine zd ?_ | refine zb ?_ _)); refine zm ?_ NB454_471.out _; (with_reducible repeat (first | refine zc ?_ _ | refine zd ?_ | refine zb ?_ _)); refine zm ?_ NB454_471.out _; (with_reducible repeat (first | refine zc ?_ _ | refine zd ?_ | refine zb ?_ _)); exact BK454.out)) : gb454 ≠ gb472)); have n13_ := za.mk n12_.out.symm; have n14_ := za.mk ((by rw [hg]; exact Nat.ne_of_lt (zdb (g := gb465) (o := .cells #[.int .i8 ((zf t455 t463).f0), .bool ((zf t455 t463).f1)] 38 (0, 0)) (by (with_reducible repeat (first | refine zc ?_ _ | refine zd ?_ | refine zb ?_ _)); refine zm ?_ NB465_471.out _; (with_reducible repeat (first | refine zc ?_ _ | refine zd ?_ | refine zb ?_ _)); refine zm ?_ NB465_471.out _; (with_reducible repeat (first | refine zc ?_ _ | refine zd ?_ | refine zb ?_ _)); refine zm ?_ NB465_471.out _; (with_reducible repeat (first | refine zc ?_ _ | refine zd ?_ | refine zb ?_ _)); refine zm ?_ NB465_471.out _; (with_reducible repeat (first | refine zc ?_ _ | refine zd ?_ | refine zb ?_ _)); exact BK465.out)) : gb465 ≠ gb472)); have n15_ := za.mk n14_.out.symm; have n16_ := za.mk ((by rw [hg]; exact Nat.ne_of_lt (zdb (g := gb471) (o := .cells #[.int .i8 t466, .int .i8 t467, .int .i8 t468, .int .i8 t469] 43 (0, 0)) (by (with_reducible repeat (first | refine zc ?_ _ | refine zd ?_ | refine zb ?_ _)); refine zl (cs := #[.int .i8 t466, .int .i8 t467, .int .i8 t468, .int .i8 0]) ?_ 3 _ rfl; (with_reducible repeat (first | refine zc ?_ _ | refine zd ?_ | refine zb ?_ _)); refine zl (cs := #[.int .i8 t466, .int .i8 t467, .int .i8 0, .int .i8 0]) ?_ 2 _ rfl; (with_reducible repeat (first | refine zc ?_ _ | refine zd ?_ | refine zb ?_ _)); refine zl (cs := #[.int .i8 t466, .int .i8 0, .int .i8 0, .int .i8 0]) ?_ 1 _ rfl; (with_reducible repeat (first | refine zc ?_ _ | refine zd ?_ | refine zb ?_ _)); refine zl (cs := #[.int .i8 0, .int .i8 0, .int .i8 0, .int .i8 0]) ?_ 0 _ rfl; (with_reducible repeat (first | refine zc ?_ _ | refine zd ?_ | refine zb ?_ _)); exact BK471.out)) : gb471 ≠ gb472)); have n17_ := za.mk n16_.out.symm; clear HO_7; clear HO_454002; clear BK453; clear BK454; clear BK465; clear BK471; clear HB; have HO_7 := n0_; have HO_454002 := n1_; have BK453 := n2_; have BK454 := n3_; have BK465 := n4_; have BK471 := n5_; have HB := n6_; have BK472 := n7_; have GW472 := n8_; have GE472 := n9_; have NB453_472 := n10_; have NB472_453 := n11_; have NB454_472 := n12_; have NB472_454 := n13_; have NB465_472 := n14_; have NB472_465 := n15_; have NB471_472 := n16_; have NB472_471 := n17_; clear n0_ n1_ n2_ n3_ n4_ n5_ n6_ n7_ n8_ n9_ n10_ n11_ n12_ n13_ n14_ n15_ n16_ n17_; clear hb hbox hg; have hnb58 := NB472_453.out; have hnc58 := NB453_472.out; have hnb59 := NB472_454.out; have hnc59 := NB454_472.out; have hnb60 := NB472_465.out; have hnc60 := NB465_472.out; have hnb61 := NB472_471.out; have hnc61 := NB471_472.out; obtain ⟨hcz62_0, hcz62_1, hcz62_2, hcz62_3⟩ := xc4 BK472; obtain ⟨hfz62_0, hfz62_1, hfz62_2, hfz62_3⟩ := xf4 BK472)))
       go_loopg [17, 18] kj20 (fun kq v17 v18 w' => ∃ (x17_3 : Int) (x18_3 : Int) (x473000_3 : Int) (x473001_3 : Int) (x473002_3 : Int) (x473003_3 : Int), v17 = .int .i64 x17_3 ∧ v18 = .int .i64 x18_3 ∧ za (laws_FnNear.l0 kq l1 t461 t470 x17_3 x18_3 t448 t449 t450 ((zf t455 t463).f0) ((zf t455 t463).f1) t466 t467 t468 t469 x473000_3 x473001_3 x473002_3 x473003_3 = some true) ∧ za (kq ≤ kj20) ∧ za (Kd.R k43 43 w' w.heap.size (fun k_ => k_ ≠ gb471 ∧ k_ ≠ gb472) (.slice Ao25 t450.length co25) t450) ∧ za (w'.heap[gb453]? = some (.cells #[.int .i8 t448, .int .i8 t449, (.slice Ao25 t450.length co25)] 28 (0, 0))) ∧ za (w'.heap[gb454]? = some (.cells #[.int .i8 (IntKind.i8.wrap ((t450.length : Int))), .int .i8 t449, .bool true, .bool false] 50 (0, 0))) ∧ za (w'.heap[gb465]? = some (.cells #[.int .i8 ((zf t455 t463).f0), .bool ((zf t455 t463).f1)] 38 (0, 0))) ∧ za (w'.heap[gb471]? = some (.cells #[.int .i8 t466, .int .i8 t467, .int .i8 t468, .int .i8 t469] 43 (0, 0))) ∧ za (w'.heap[gb472]? = some (.cells #[.int .i8 x473000_3, .int .i8 x473001_3, .int .i8 x473002_3, .int .i8 x473003_3] 43 (0, 0))) ∧ za (Below w.heap.size w w'))
       case atStart => exact ⟨(0), (0), (t466), (t467), (t468), (t469), (by first | rfl | (simp; done) | (simp [*]; done)), (by first | rfl | (simp; done) | (simp [*]; done)), H', ⟨Nat.le_refl _⟩, ⟨by (with_reducible repeat (first | apply Kd.R_alloc | apply Kd.R_drewN | apply Kd.R_drew)); exact Kd.R_mono (Kd.R_far (p := ⟨gb472, 3, none⟩) (Kd.R_far (p := ⟨gb472, 2, none⟩) (Kd.R_far (p := ⟨gb472, 1, none⟩) (Kd.R_far (p := ⟨gb472, 0, none⟩) (Kd.R_mono HO_454002.out (fun k_ hk => (⟨hk, hk.2⟩ : _ ∧ k_ ≠ gb472))) (fun _ hk => hk.2) (.int .i8 t466)) (fun _ hk => hk.2) (.int .i8 t467)) (fun _ hk => hk.2) (.int .i8 t468)) (fun _ hk => hk.2) (.int .i8 t469)) (fun _ hk => ⟨hk.1.1.2, hk.1.2⟩)⟩, ⟨by (with_reducible repeat (first | refine zc ?_ _ | refine zd ?_ | refine zb ?_ _)); refine zm ?_ NB453_472.out _; (with_reducible repeat (first | refine zc ?_ _ | refine zd ?_ | refine zb ?_ _)); refine zm ?_ NB453_472.out _; (with_reducible repeat (first | refine zc ?_ _ | refine zd ?_ | refine zb ?_ _)); refine zm ?_ NB453_472.out _; (with_reducible repeat (first | refine zc ?_ _ | refine zd ?_ | refine zb ?_ _)); refine zm ?_ NB453_472.out _; (with_reducible repeat (first | refine zc ?_ _ | refine zd ?_ | refine zb ?_ _)); exact BK453.out⟩, ⟨by (with_reducible repeat (first | refine zc ?_ _ | refine zd ?_ | refine zb ?_ _)); refine zm ?_ NB454_472.out _; (with_reducible repeat (first | refine zc ?_ _ | refine zd ?_ | refine zb ?_ _)); refine zm ?_ NB454_472.out _; (with_reducible repeat (first | refine zc ?_ _ | refine zd ?_ | refine zb ?_ _)); refine zm ?_ NB454_472.out _; (with_reducible repeat (first | refine zc ?_ _ | refine zd ?_ | refine zb ?_ _)); refine zm ?_ NB454_472.out _; (with_reducible repeat (first | refine zc ?_ _ | refine zd ?_ | refine zb ?_ _)); exact BK454.out⟩, ⟨by (with_reducible repeat (first | refine zc ?_ _ | refine zd ?_ | refine zb ?_ _)); refine zm ?_ NB465_472.out _; (with_reducible repeat (first | refine zc ?_ _ | refine zd ?_ | refine zb ?_ _)); refine zm ?_ NB465_472.out _; (with_reducible repeat (first | refine zc ?_ _ | refine zd ?_ | refine zb ?_ _)); refine zm ?_ NB465_472.out _; (with_reducible repeat (first | refine zc ?_ _ | refine zd ?_ | refine zb ?_ _)); refine zm ?_ NB465_472.out _; (with_reducible repeat (first | refine zc ?_ _ | refine zd ?_ | refine zb ?_ _)); exact BK465.out⟩, ⟨by (with_reducible repeat (first | refine zc ?_ _ | refine zd ?_ | refine zb ?_ _)); refine zm ?_ NB471_472.out _; (with_reducible repeat (first | refine zc ?_ _ | refine zd ?_ | refine zb ?_ _)); refine zm ?_ NB471_472.out _; (with_reducible repeat (first | refine zc ?_ _ | refine zd ?_ | refine zb ?_ _)); refine zm ?_ NB471_472.out _; (with_reducible repeat (first | refine zc ?_ _ | refine zd ?_ | refine zb ?_ _)); refine zm ?_ NB471_472.out _; (with_reducible repeat (first | refine zc ?_ _ | refine zd ?_ | refine zb ?_ _)); exact BK471.out⟩, ⟨by (with_reducible repeat (first | refine zc ?_ _ | refine zd ?_ | refine zb ?_ _)); refine zl (cs := #[.int .i8 t466, .int .i8 t467, .int .i8 t468, .int .i8 0]) ?_ 3 _ rfl; (with_reducible repeat (first | refine zc ?_ _ | refine zd ?_ | refine zb ?_ _)); refine zl (cs := #[.int .i8 t466, .int .i8 t467, .int .i8 0, .int .i8 0]) ?_ 2 _ rfl; (with_reducible repeat (first | refine zc ?_ _ | refine zd ?_ | refine zb ?_ _)); refine zl (cs := #[.int .i8 t466, .int .i8 0, .int .i8 0, .int .i8 0]) ?_ 1 _ rfl; (with_reducible repeat (first | refine zc ?_ _ | refine zd ?_ | refine zb ?_ _)); refine zl (cs := #[.int .i8 0, .int .i8 0, .int .i8 0, .int .i8 0]) ?_ 0 _ rfl; (with_reducible repeat (first | refine zc ?_ _ | refine zd ?_ | refine zb ?_ _)); exact BK472.out⟩, ⟨sB⟩⟩
       case round =>
        clear H'
        try clear c1
        try clear c2
        try clear p2
        try clear c3
        try clear c4
        try clear p4
        try clear q4
        try clear hx4
        try clear c5
        try clear c6
        try clear c7
        try clear c9
        try clear c9b0
        try clear c9b1
        try clear c15
        try clear c27
        try clear c35
        try clear c35b0
        try clear c35b1
        try clear c36
        try clear c36b0
        try clear c36b1
        try clear c37
        try clear c37b0
        try clear c37b1
        try clear c38
        try clear c40
        try clear c40b0
        try clear c41
        try clear c41b0
        try clear c46
        try clear p46
        try clear q46
        try clear hx46
        try clear c47
        try clear c49
        try clear c53
        try clear c54
        try clear c55
        try clear c58
        try clear c59
        try clear c60
        try clear c61
        try clear hcz12_0 hcz12_1 hcz12_2
        try clear hcz16_0 hcz16_1 hcz16_2 hcz16_3
        try clear hcz17_0 hcz17_1 hcz17_2
        try clear hcz24_0 hcz24_1 hcz24_2
        try clear hcz28_0 hcz28_1 hcz28_2 hcz28_3
        try clear hcz29_0 hcz29_1 hcz29_2
        try clear hcz31_0 hcz31_1 hcz31_2
        try clear hcz33_0 hcz33_1 hcz33_2
        try clear hcz48_0 hcz48_1
        try clear hcz50_0 hcz50_1 hcz50_2
        try clear hcz56_0 hcz56_1 hcz56_2 hcz56_3
        try clear hcz62_0 hcz62_1 hcz62_2 hcz62_3
        try clear hfz12_0 hfz12_1 hfz12_2
        try clear hfz16_0 hfz16_1 hfz16_2 hfz16_3
        try clear hfz17_0 hfz17_1 hfz17_2
        try clear hfz24_0 hfz24_1 hfz24_2
        try clear hfz28_0 hfz28_1 hfz28_2 hfz28_3
        try clear hfz29_0 hfz29_1 hfz29_2
        try clear hfz31_0 hfz31_1 hfz31_2
        try clear hfz33_0 hfz33_1 hfz33_2
        try clear hfz48_0 hfz48_1
        try clear hfz50_0 hfz50_1 hfz50_2
        try clear hfz56_0 hfz56_1 hfz56_2 hfz56_3
        try clear hfz62_0 hfz62_1 hfz62_2 hfz62_3
        try clear hx464_0
        try clear hx464_1
        try clear p2
        try clear p464
        try clear q464
        obtain ⟨x17_3, x18_3, x473000_3, x473001_3, x473002_3, x473003_3, rfl, rfl, HA, HK3, HO_454002, BK453, BK454, BK465, BK471, BK472, HB⟩ := hrel
        cases gk with
        | zero => exact absurd HA.out (by simp [laws_FnNear.l0])
        | succ k3 =>
         have H := HA.out
         clear HA
         simp only [laws_FnNear.l0] at H
         by_cases c63 : x18_3 < (wrap64 (t448))
         ·rw [if_pos c63] at H
          have c63b0 : decide (x18_3 < (wrap64 (t448))) = true := decide_eq_true c63
          (try (have c63b1 : decide (x18_3 < (IntKind.i64.wrap (t448))) = true := by have h_ : decide (x18_3 < (wrap64 (t448))) = true := decide_eq_true c63; simpa only [zda, zfa] using h_))
          clear c63
          obtain ⟨y473, hy473⟩ : ∃ y_ : List Int, y_ = (([(x18_3) % 256] : List Int)) := ⟨_, rfl⟩
          replace H : (if y473.length + l1.length < 140737488355328 then ((spec_P6Pick.f (y473 ++ l1) 4).bind fun t479 => (if t479 = 0 then ((some (([(wrap64 (x18_3 + 7)) % 256] : List Int) : List Int)).bind fun y480 => (if y480.length + l1.length < 140737488355328 then ((spec_P6Pick.f (y480 ++ l1) 3).bind fun t486 => (if 0 ≤ x18_3 then (if x18_3 < 4 then (if (rd [(zu x18_3 0 (IntKind.i8.wrap (wrap64 (t486 - 1))) x473000_3), (zu x18_3 1 (IntKind.i8.wrap (wrap64 (t486 - 1))) x473001_3), (zu x18_3 2 (IntKind.i8.wrap (wrap64 (t486 - 1))) x473002_3), (zu x18_3 3 (IntKind.i8.wrap (wrap64 (t486 - 1))) x473003_3)] x18_3) = (rd [t466, t467, t468, t469] x18_3) then (laws_FnNear.l0 k3 l1 t461 t470 x17_3 (wrap64 (x18_3 + 1)) t448 t449 t450 ((zf t455 t463).f0) ((zf t455 t463).f1) t466 t467 t468 t469 (zu x18_3 0 (IntKind.i8.wrap (wrap64 (t486 - 1))) x473000_3) (zu x18_3 1 (IntKind.i8.wrap (wrap64 (t486 - 1))) x473001_3) (zu x18_3 2 (IntKind.i8.wrap (wrap64 (t486 - 1))) x473002_3) (zu x18_3 3 (IntKind.i8.wrap (wrap64 (t486 - 1))) x473003_3)) else (laws_FnNear.l0 k3 l1 t461 t470 (wrap64 (x17_3 + 1)) (wrap64 (x18_3 + 1)) t448 t449 t450 ((zf t455 t463).f0) ((zf t455 t463).f1) t466 t467 t468 t469 (zu x18_3 0 (IntKind.i8.wrap (wrap64 (t486 - 1))) x473000_3) (zu x18_3 1 (IntKind.i8.wrap (wrap64 (t486 - 1))) x473001_3) (zu x18_3 2 (IntKind.i8.wrap (wrap64 (t486 - 1))) x473002_3) (zu x18_3 3 (IntKind.i8.wrap (wrap64 (t486 - 1))) x473003_3))) else (none)) else (none))) else (none))) else (if 0 ≤ x18_3 then (if x18_3 < 4 then (if (rd [x473000_3, x473001_3, x473002_3, x473003_3] x18_3) = (rd [t466, t467, t468, t469] x18_3) then (laws_FnNear.l0 k3 l1 t461 t470 x17_3 (wrap64 (x18_3 + 1)) t448 t449 t450 ((zf t455 t463).f0) ((zf t455 t463).f1) t466 t467 t468 t469 x473000_3 x473001_3 x473002_3 x473003_3) else (laws_FnNear.l0 k3 l1 t461 t470 (wrap64 (x17_3 + 1)) (wrap64 (x18_3 + 1)) t448 t449 t450 ((zf t455 t463).f0) ((zf t455 t463).f1) t466 t467 t468 t469 x473000_3 x473001_3 x473002_3 x473003_3)) else (none)) else (none)))) else (none)) = some true := by first | (rw [hy473]; with_reducible exact H) | (have H2_ := (Option.bind_some _ _).symm.trans H; rw [hy473]; with_reducible exact H2_) | (have H2_ := (Option.bind_some _ _).symm.trans H; with_reducible exact H2_) | with_reducible exact H | (rw [hy473]; exact H) | exact H
          have Ny473 := za.mk hy473
          clear hy473
          by_cases c64 : y473.length + l1.length < 140737488355328
          ·rw [if_pos c64] at H
           have LMc64 := za.mk c64
           clear c64
           obtain ⟨y476, hy476⟩ : ∃ y_ : List Int, y_ = (y473 ++ l1) := ⟨_, rfl⟩
           replace H : ((spec_P6Pick.f y476 4).bind fun t479 => (if t479 = 0 then ((some (([(wrap64 (x18_3 + 7)) % 256] : List Int) : List Int)).bind fun y480 => (if y480.length + l1.length < 140737488355328 then ((spec_P6Pick.f (y480 ++ l1) 3).bind fun t486 => (if 0 ≤ x18_3 then (if x18_3 < 4 then (if (rd [(zu x18_3 0 (IntKind.i8.wrap (wrap64 (t486 - 1))) x473000_3), (zu x18_3 1 (IntKind.i8.wrap (wrap64 (t486 - 1))) x473001_3), (zu x18_3 2 (IntKind.i8.wrap (wrap64 (t486 - 1))) x473002_3), (zu x18_3 3 (IntKind.i8.wrap (wrap64 (t486 - 1))) x473003_3)] x18_3) = (rd [t466, t467, t468, t469] x18_3) then (laws_FnNear.l0 k3 l1 t461 t470 x17_3 (wrap64 (x18_3 + 1)) t448 t449 t450 ((zf t455 t463).f0) ((zf t455 t463).f1) t466 t467 t468 t469 (zu x18_3 0 (IntKind.i8.wrap (wrap64 (t486 - 1))) x473000_3) (zu x18_3 1 (IntKind.i8.wrap (wrap64 (t486 - 1))) x473001_3) (zu x18_3 2 (IntKind.i8.wrap (wrap64 (t486 - 1))) x473002_3) (zu x18_3 3 (IntKind.i8.wrap (wrap64 (t486 - 1))) x473003_3)) else (laws_FnNear.l0 k3 l1 t461 t470 (wrap64 (x17_3 + 1)) (wrap64 (x18_3 + 1)) t448 t449 t450 ((zf t455 t463).f0) ((zf t455 t463).f1) t466 t467 t468 t469 (zu x18_3 0 (IntKind.i8.wrap (wrap64 (t486 - 1))) x473000_3) (zu x18_3 1 (IntKind.i8.wrap (wrap64 (t486 - 1))) x473001_3) (zu x18_3 2 (IntKind.i8.wrap (wrap64 (t486 - 1))) x473002_3) (zu x18_3 3 (IntKind.i8.wrap (wrap64 (t486 - 1))) x473003_3))) else (none)) else (none))) else (none))) else (if 0 ≤ x18_3 then (if x18_3 < 4 then (if (rd [x473000_3, x473001_3, x473002_3, x473003_3] x18_3) = (rd [t466, t467, t468, t469] x18_3) then (laws_FnNear.l0 k3 l1 t461 t470 x17_3 (wrap64 (x18_3 + 1)) t448 t449 t450 ((zf t455 t463).f0) ((zf t455 t463).f1) t466 t467 t468 t469 x473000_3 x473001_3 x473002_3 x473003_3) else (laws_FnNear.l0 k3 l1 t461 t470 (wrap64 (x17_3 + 1)) (wrap64 (x18_3 + 1)) t448 t449 t450 ((zf t455 t463).f0) ((zf t455 t463).f1) t466 t467 t468 t469 x473000_3 x473001_3 x473002_3 x473003_3)) else (none)) else (none)))) = some true := by first | (rw [hy476]; with_reducible exact H) | (have H2_ := (Option.bind_some _ _).symm.trans H; rw [hy476]; with_reducible exact H2_) | (have H2_ := (Option.bind_some _ _).symm.trans H; with_reducible exact H2_) | with_reducible exact H | (rw [hy476]; exact H) | exact H
           have Ny476 := za.mk hy476
           clear hy476
           replace H := Option.bind_eq_some_iff.mp H
           obtain ⟨t479, A650, H⟩ := H
           replace H : (if t479 = 0 then ((some (([(wrap64 (x18_3 + 7)) % 256] : List Int) : List Int)).bind fun y480 => (if y480.length + l1.length < 140737488355328 then ((spec_P6Pick.f (y480 ++ l1) 3).bind fun t486 => (if 0 ≤ x18_3 then (if x18_3 < 4 then (if (rd [(zu x18_3 0 (IntKind.i8.wrap (wrap64 (t486 - 1))) x473000_3), (zu x18_3 1 (IntKind.i8.wrap (wrap64 (t486 - 1))) x473001_3), (zu x18_3 2 (IntKind.i8.wrap (wrap64 (t486 - 1))) x473002_3), (zu x18_3 3 (IntKind.i8.wrap (wrap64 (t486 - 1))) x473003_3)] x18_3) = (rd [t466, t467, t468, t469] x18_3) then (laws_FnNear.l0 k3 l1 t461 t470 x17_3 (wrap64 (x18_3 + 1)) t448 t449 t450 ((zf t455 t463).f0) ((zf t455 t463).f1) t466 t467 t468 t469 (zu x18_3 0 (IntKind.i8.wrap (wrap64 (t486 - 1))) x473000_3) (zu x18_3 1 (IntKind.i8.wrap (wrap64 (t486 - 1))) x473001_3) (zu x18_3 2 (IntKind.i8.wrap (wrap64 (t486 - 1))) x473002_3) (zu x18_3 3 (IntKind.i8.wrap (wrap64 (t486 - 1))) x473003_3)) else (laws_FnNear.l0 k3 l1 t461 t470 (wrap64 (x17_3 + 1)) (wrap64 (x18_3 + 1)) t448 t449 t450 ((zf t455 t463).f0) ((zf t455 t463).f1) t466 t467 t468 t469 (zu x18_3 0 (IntKind.i8.wrap (wrap64 (t486 - 1))) x473000_3) (zu x18_3 1 (IntKind.i8.wrap (wrap64 (t486 - 1))) x473001_3) (zu x18_3 2 (IntKind.i8.wrap (wrap64 (t486 - 1))) x473002_3) (zu x18_3 3 (IntKind.i8.wrap (wrap64 (t486 - 1))) x473003_3))) else (none)) else (none))) else (none))) else (if 0 ≤ x18_3 then (if x18_3 < 4 then (if (rd [x473000_3, x473001_3, x473002_3, x473003_3] x18_3) = (rd [t466, t467, t468, t469] x18_3) then (laws_FnNear.l0 k3 l1 t461 t470 x17_3 (wrap64 (x18_3 + 1)) t448 t449 t450 ((zf t455 t463).f0) ((zf t455 t463).f1) t466 t467 t468 t469 x473000_3 x473001_3 x473002_3 x473003_3) else (laws_FnNear.l0 k3 l1 t461 t470 (wrap64 (x17_3 + 1)) (wrap64 (x18_3 + 1)) t448 t449 t450 ((zf t455 t463).f0) ((zf t455 t463).f1) t466 t467 t468 t469 x473000_3 x473001_3 x473002_3 x473003_3)) else (none)) else (none))) = some true := H
           have A65 := za.mk A650
           clear A650
           by_cases c66 : t479 = 0
           ·rw [if_pos c66] at H
            have c66b0 : (t479 == 0) = true := beq_iff_eq.mpr c66
            have c66b1 : (t479 != 0) = false := bne_eq_false_iff_eq.mpr c66
            clear c66
            obtain ⟨y480, hy480⟩ : ∃ y_ : List Int, y_ = (([(wrap64 (x18_3 + 7)) % 256] : List Int)) := ⟨_, rfl⟩
            replace H : (if y480.length + l1.length < 140737488355328 then ((spec_P6Pick.f (y480 ++ l1) 3).bind fun t486 => (if 0 ≤ x18_3 then (if x18_3 < 4 then (if (rd [(zu x18_3 0 (IntKind.i8.wrap (wrap64 (t486 - 1))) x473000_3), (zu x18_3 1 (IntKind.i8.wrap (wrap64 (t486 - 1))) x473001_3), (zu x18_3 2 (IntKind.i8.wrap (wrap64 (t486 - 1))) x473002_3), (zu x18_3 3 (IntKind.i8.wrap (wrap64 (t486 - 1))) x473003_3)] x18_3) = (rd [t466, t467, t468, t469] x18_3) then (laws_FnNear.l0 k3 l1 t461 t470 x17_3 (wrap64 (x18_3 + 1)) t448 t449 t450 ((zf t455 t463).f0) ((zf t455 t463).f1) t466 t467 t468 t469 (zu x18_3 0 (IntKind.i8.wrap (wrap64 (t486 - 1))) x473000_3) (zu x18_3 1 (IntKind.i8.wrap (wrap64 (t486 - 1))) x473001_3) (zu x18_3 2 (IntKind.i8.wrap (wrap64 (t486 - 1))) x473002_3) (zu x18_3 3 (IntKind.i8.wrap (wrap64 (t486 - 1))) x473003_3)) else (laws_FnNear.l0 k3 l1 t461 t470 (wrap64 (x17_3 + 1)) (wrap64 (x18_3 + 1)) t448 t449 t450 ((zf t455 t463).f0) ((zf t455 t463).f1) t466 t467 t468 t469 (zu x18_3 0 (IntKind.i8.wrap (wrap64 (t486 - 1))) x473000_3) (zu x18_3 1 (IntKind.i8.wrap (wrap64 (t486 - 1))) x473001_3) (zu x18_3 2 (IntKind.i8.wrap (wrap64 (t486 - 1))) x473002_3) (zu x18_3 3 (IntKind.i8.wrap (wrap64 (t486 - 1))) x473003_3))) else (none)) else (none))) else (none)) = some true := by first | (rw [hy480]; with_reducible exact H) | (have H2_ := (Option.bind_some _ _).symm.trans H; rw [hy480]; with_reducible exact H2_) | (have H2_ := (Option.bind_some _ _).symm.trans H; with_reducible exact H2_) | with_reducible exact H | (rw [hy480]; exact H) | exact H
            have Ny480 := za.mk hy480
            clear hy480
            by_cases c67 : y480.length + l1.length < 140737488355328
            ·rw [if_pos c67] at H
             have LMc67 := za.mk c67
             clear c67
             obtain ⟨y483, hy483⟩ : ∃ y_ : List Int, y_ = (y480 ++ l1) := ⟨_, rfl⟩
             replace H : ((spec_P6Pick.f y483 3).bind fun t486 => (if 0 ≤ x18_3 then (if x18_3 < 4 then (if (rd [(zu x18_3 0 (IntKind.i8.wrap (wrap64 (t486 - 1))) x473000_3), (zu x18_3 1 (IntKind.i8.wrap (wrap64 (t486 - 1))) x473001_3), (zu x18_3 2 (IntKind.i8.wrap (wrap64 (t486 - 1))) x473002_3), (zu x18_3 3 (IntKind.i8.wrap (wrap64 (t486 - 1))) x473003_3)] x18_3) = (rd [t466, t467, t468, t469] x18_3) then (laws_FnNear.l0 k3 l1 t461 t470 x17_3 (wrap64 (x18_3 + 1)) t448 t449 t450 ((zf t455 t463).f0) ((zf t455 t463).f1) t466 t467 t468 t469 (zu x18_3 0 (IntKind.i8.wrap (wrap64 (t486 - 1))) x473000_3) (zu x18_3 1 (IntKind.i8.wrap (wrap64 (t486 - 1))) x473001_3) (zu x18_3 2 (IntKind.i8.wrap (wrap64 (t486 - 1))) x473002_3) (zu x18_3 3 (IntKind.i8.wrap (wrap64 (t486 - 1))) x473003_3)) else (laws_FnNear.l0 k3 l1 t461 t470 (wrap64 (x17_3 + 1)) (wrap64 (x18_3 + 1)) t448 t449 t450 ((zf t455 t463).f0) ((zf t455 t463).f1) t466 t467 t468 t469 (zu x18_3 0 (IntKind.i8.wrap (wrap64 (t486 - 1))) x473000_3) (zu x18_3 1 (IntKind.i8.wrap (wrap64 (t486 - 1))) x473001_3) (zu x18_3 2 (IntKind.i8.wrap (wrap64 (t486 - 1))) x473002_3) (zu x18_3 3 (IntKind.i8.wrap (wrap64 (t486 - 1))) x473003_3))) else (none)) else (none))) = some true := by first | (rw [hy483]; with_reducible exact H) | (have H2_ := (Option.bind_some _ _).symm.trans H; rw [hy483]; with_reducible exact H2_) | (have H2_ := (Option.bind_some _ _).symm.trans H; with_reducible exact H2_) | with_reducible exact H | (rw [hy483]; exact H) | exact H
             have Ny483 := za.mk hy483
             clear hy483
             replace H := Option.bind_eq_some_iff.mp H
             obtain ⟨t486, A680, H⟩ := H
             replace H : (if 0 ≤ x18_3 then (if x18_3 < 4 then (if (rd [(zu x18_3 0 (IntKind.i8.wrap (wrap64 (t486 - 1))) x473000_3), (zu x18_3 1 (IntKind.i8.wrap (wrap64 (t486 - 1))) x473001_3), (zu x18_3 2 (IntKind.i8.wrap (wrap64 (t486 - 1))) x473002_3), (zu x18_3 3 (IntKind.i8.wrap (wrap64 (t486 - 1))) x473003_3)] x18_3) = (rd [t466, t467, t468, t469] x18_3) then (laws_FnNear.l0 k3 l1 t461 t470 x17_3 (wrap64 (x18_3 + 1)) t448 t449 t450 ((zf t455 t463).f0) ((zf t455 t463).f1) t466 t467 t468 t469 (zu x18_3 0 (IntKind.i8.wrap (wrap64 (t486 - 1))) x473000_3) (zu x18_3 1 (IntKind.i8.wrap (wrap64 (t486 - 1))) x473001_3) (zu x18_3 2 (IntKind.i8.wrap (wrap64 (t486 - 1))) x473002_3) (zu x18_3 3 (IntKind.i8.wrap (wrap64 (t486 - 1))) x473003_3)) else (laws_FnNear.l0 k3 l1 t461 t470 (wrap64 (x17_3 + 1)) (wrap64 (x18_3 + 1)) t448 t449 t450 ((zf t455 t463).f0) ((zf t455 t463).f1) t466 t467 t468 t469 (zu x18_3 0 (IntKind.i8.wrap (wrap64 (t486 - 1))) x473000_3) (zu x18_3 1 (IntKind.i8.wrap (wrap64 (t486 - 1))) x473001_3) (zu x18_3 2 (IntKind.i8.wrap (wrap64 (t486 - 1))) x473002_3) (zu x18_3 3 (IntKind.i8.wrap (wrap64 (t486 - 1))) x473003_3))) else (none)) else (none)) = some true := H
             have A68 := za.mk A680
             clear A680
             by_cases c69 : 0 ≤ x18_3
             ·rw [if_pos c69] at H
              have c69b0 : decide (0 ≤ x18_3) = true := decide_eq_true c69
              clear c69
              by_cases c70 : x18_3 < 4
              ·rw [if_pos c70] at H
               have c70b0 : decide (x18_3 < 4) = true := decide_eq_true c70
               clear c70
               by_cases c71 : (rd [(zu x18_3 0 (IntKind.i8.wrap (wrap64 (t486 - 1))) x473000_3), (zu x18_3 1 (IntKind.i8.wrap (wrap64 (t486 - 1))) x473001_3), (zu x18_3 2 (IntKind.i8.wrap (wrap64 (t486 - 1))) x473002_3), (zu x18_3 3 (IntKind.i8.wrap (wrap64 (t486 - 1))) x473003_3)] x18_3) = (rd [t466, t467, t468, t469] x18_3)
               ·rw [if_pos c71] at H
                have c71b0 : ((rd [(zu x18_3 0 (IntKind.i8.wrap (wrap64 (t486 - 1))) x473000_3), (zu x18_3 1 (IntKind.i8.wrap (wrap64 (t486 - 1))) x473001_3), (zu x18_3 2 (IntKind.i8.wrap (wrap64 (t486 - 1))) x473002_3), (zu x18_3 3 (IntKind.i8.wrap (wrap64 (t486 - 1))) x473003_3)] x18_3) == (rd [t466, t467, t468, t469] x18_3)) = true := beq_iff_eq.mpr c71
                have c71b1 : ((rd [(zu x18_3 0 (IntKind.i8.wrap (wrap64 (t486 - 1))) x473000_3), (zu x18_3 1 (IntKind.i8.wrap (wrap64 (t486 - 1))) x473001_3), (zu x18_3 2 (IntKind.i8.wrap (wrap64 (t486 - 1))) x473002_3), (zu x18_3 3 (IntKind.i8.wrap (wrap64 (t486 - 1))) x473003_3)] x18_3) != (rd [t466, t467, t468, t469] x18_3)) = false := bne_eq_false_iff_eq.mpr c71
                (try (have c71b2 : ((rd [(zu x18_3 0 (IntKind.i8.wrap (IntKind.i64.wrap (t486 - 1))) x473000_3), (zu x18_3 1 (IntKind.i8.wrap (IntKind.i64.wrap (t486 - 1))) x473001_3), (zu x18_3 2 (IntKind.i8.wrap (IntKind.i64.wrap (t486 - 1))) x473002_3), (zu x18_3 3 (IntKind.i8.wrap (IntKind.i64.wrap (t486 - 1))) x473003_3)] x18_3) == (rd [t466, t467, t468, t469] x18_3)) = true := by have h_ : ((rd [(zu x18_3 0 (IntKind.i8.wrap (wrap64 (t486 - 1))) x473000_3), (zu x18_3 1 (IntKind.i8.wrap (wrap64 (t486 - 1))) x473001_3), (zu x18_3 2 (IntKind.i8.wrap (wrap64 (t486 - 1))) x473002_3), (zu x18_3 3 (IntKind.i8.wrap (wrap64 (t486 - 1))) x473003_3)] x18_3) == (rd [t466, t467, t468, t469] x18_3)) = true := beq_iff_eq.mpr c71; simpa only [zda, zfa] using h_))
                (try (have c71b3 : ((rd [(zu x18_3 0 (IntKind.i8.wrap (IntKind.i64.wrap (t486 - 1))) x473000_3), (zu x18_3 1 (IntKind.i8.wrap (IntKind.i64.wrap (t486 - 1))) x473001_3), (zu x18_3 2 (IntKind.i8.wrap (IntKind.i64.wrap (t486 - 1))) x473002_3), (zu x18_3 3 (IntKind.i8.wrap (IntKind.i64.wrap (t486 - 1))) x473003_3)] x18_3) != (rd [t466, t467, t468, t469] x18_3)) = false := by have h_ : ((rd [(zu x18_3 0 (IntKind.i8.wrap (wrap64 (t486 - 1))) x473000_3), (zu x18_3 1 (IntKind.i8.wrap (wrap64 (t486 - 1))) x473001_3), (zu x18_3 2 (IntKind.i8.wrap (wrap64 (t486 - 1))) x473002_3), (zu x18_3 3 (IntKind.i8.wrap (wrap64 (t486 - 1))) x473003_3)] x18_3) != (rd [t466, t467, t468, t469] x18_3)) = false := bne_eq_false_iff_eq.mpr c71; simpa only [zda, zfa] using h_))
                clear c71
                have H' := za.mk H
                clear H
                have hnb72 := NB453_454.out
                have hnc72 := NB454_453.out
                have hnb73 := NB453_465.out
                have hnc73 := NB465_453.out
                have hnb74 := NB453_471.out
                have hnc74 := NB471_453.out
                have hnb75 := NB453_472.out
                have hnc75 := NB472_453.out
                obtain ⟨hcz76_0, hcz76_1, hcz76_2⟩ := xc3 BK453
                obtain ⟨hfz76_0, hfz76_1, hfz76_2⟩ := xf3 BK453
                go_wp2_with (first | ((with_reducible refine zn (N := 98) rfl ?_); refine Kd.R_lit (Kd.int .u8) _ 5 ?hg (N := 98) ?hd (xs := ([(x18_3) % 256] : List Int)) (inner := [.int .u8 ((x18_3) % 256)]) (ok := fun _ => True) (okp := fun _ => True) ?hr ?hp (fun _ hk => hk) trivial (Below.refl _ _) (Nat.le_refl _) (by simp) ?_; (case hd => rfl); (case hg => rfl); (case hr => first | (go_simp; done) | (go_simp; rfl)); (case hp => exact (Reps.one (show Kd.M (Kd.int .u8) _ _ _ ((x18_3) % 256) [.int .u8 ((x18_3) % 256)] from rfl) (Reps.none _ _))); intro v474 w77 ho78 hb hg_ hnew_; clear hg_ hnew_; (first | rw [← Ny473.out] at ho78 | (simp only [Int.reduceToNat] at ho78; rw [← Ny473.out] at ho78)); have HO475 := za.mk (Kd.R_lower ho78 (zv sB)); replace HO_454002 := dR HO_454002 hb; replace BK453 := dK BK453 hb; replace BK454 := dK BK454 hb; replace BK465 := dK BK465 hb; replace BK471 := dK BK471 hb; replace BK472 := dK BK472 hb; replace HB := za.mk (ze sB hb); clear hb ho78) | ((with_reducible refine zga (b := .append) (xs := #[.tmp 98, .tmp 99]) rfl ?_); at_builtin; refine Kd.R_append_rows (Kd.int .u8) (w0 := w) w.heap.size rfl (.tmp 98) (.tmp 99) 22 5 (.int .u8 0) 1 rfl Try.underlying22 zcc rfl (by decide) (by omega) v474 y473 l1 _ _ _ (fun _ => True) (fun _ => False) rfl rfl ?aO ?aR (fun _ _ h => h) (fun _ h => h.elim) ?aF ?aB ?aS ?aL ?_; (case aR => exact uC HR1 HB); (case aB => exact sB); (case aF => exact (fun _ _ => trivial)); (case aO => exact (uR HO475)); (case aS => exact (zv sB)); (case aL => have := LMc64.out; omega); intro v477 w79 ho hb hg hat; rw [← Ny476.out] at ho; have HO478 := za.mk ho; replace HO_454002 := za.mk (Kd.R_over' (uR HO_454002) (Kd.R_typed (uR HO475)) (by decide) hg); replace BK453 := za.mk (zq (g := gb453) (o := .cells #[.int .i8 t448, .int .i8 t449, .slice Ao25 t450.length co25] 28 (0, 0)) (uK BK453) hg (Kd.R_ne HO475.out BK453.out (by decide))); replace BK454 := za.mk (zq (g := gb454) (o := .cells #[.int .i8 (IntKind.i8.wrap ((t450.length : Int))), .int .i8 t449, .bool true, .bool false] 50 (0, 0)) (uK BK454) hg (Kd.R_ne HO475.out BK454.out (by decide))); replace BK465 := za.mk (zq (g := gb465) (o := .cells #[.int .i8 ((zf t455 t463).f0), .bool ((zf t455 t463).f1)] 38 (0, 0)) (uK BK465) hg (Kd.R_ne HO475.out BK465.out (by decide))); replace BK471 := za.mk (zq (g := gb471) (o := .cells #[.int .i8 t466, .int .i8 t467, .int .i8 t468, .int .i8 t469] 43 (0, 0)) (uK BK471) hg (Kd.R_ne HO475.out BK471.out (by decide))); replace BK472 := za.mk (zq (g := gb472) (o := .cells #[.int .i8 x473000_3, .int .i8 x473001_3, .int .i8 x473002_3, .int .i8 x473003_3] 43 (0, 0)) (uK BK472) hg (Kd.R_ne HO475.out BK472.out (by decide))); replace HB := za.mk hb; clear HO475; clear ho hb hg hat; obtain ⟨Ao80, co80, eo80⟩ := Kd.R_slice HO478.out; subst eo80) | (go_at_call 7; (with_reducible refine (spec_P6Pick.calls _ _ y476 4 t479 _ ?side1 ?side2 A65.out).mono ?_); (case side1 => exact uQ HO478); (case side2 => exact (Kd.R_reads' HO478.out).2.1); rintro e w81 ⟨rfl, hb⟩; replace HO_454002 := dR HO_454002 hb; replace HO478 := dR HO478 hb; replace BK453 := dK BK453 hb; replace BK454 := dK BK454 hb; replace BK465 := dK BK465 hb; replace BK471 := dK BK471 hb; replace BK472 := dK BK472 hb; replace HB := za.mk (ze sB hb); try clear hb) | ((with_reducible refine zn (N := 107) rfl ?_); refine Kd.R_lit (Kd.int .u8) _ 5 ?hg (N := 107) ?hd (xs := ([(wrap64 (x18_3 + 7)) % 256] : List Int)) (inner := [.int .u8 ((wrap64 (x18_3 + 7)) % 256)]) (ok := fun _ => True) (okp := fun _ => True) ?hr ?hp (fun _ hk => hk) trivial (Below.refl _ _) (Nat.le_refl _) (by simp) ?_; (case hd => rfl); (case hg => rfl); (case hr => first | (go_simp; done) | (go_simp; rfl)); (case hp => exact (Reps.one (show Kd.M (Kd.int .u8) _ _ _ ((wrap64 (x18_3 + 7)) % 256) [.int .u8 ((wrap64 (x18_3 + 7)) % 256)] from rfl) (Reps.none _ _))); intro v481 w82 ho83 hb hg_ hnew_; clear hg_ hnew_; (first | rw [← Ny480.out] at ho83 | (simp only [Int.reduceToNat] at ho83; rw [← Ny480.out] at ho83)); have HO482 := za.mk (Kd.R_lower (Kd.R_new' ho83 (Kd.R_lt (uR HO478))) (zv sB)); replace HO_454002 := dR HO_454002 hb; replace HO478 := za.mk (Kd.R_elder' (uR HO478) (Kd.R_base ho83) hb); replace BK453 := dK BK453 hb; replace BK454 := dK BK454 hb; replace BK465 := dK BK465 hb; replace BK471 := dK BK471 hb; replace BK472 := dK BK472 hb; replace HB := za.mk (ze sB hb); clear hb ho83) | ((with_reducible refine zga (b := .append) (xs := #[.tmp 107, .tmp 108]) rfl ?_); at_builtin; refine Kd.R_append_rows (Kd.int .u8) (w0 := w) w.heap.size rfl (.tmp 107) (.tmp 108) 22 5 (.int .u8 0) 1 rfl Try.underlying22 zcc rfl (by decide) (by omega) v481 y480 l1 _ _ _ (fun k_ => some k_ ≠ (.slice Ao80 y476.length co80 : Value).ownBlock) (fun _ => False) rfl rfl ?aO ?aR (fun _ _ h => h) (fun _ h => h.elim) ?aF ?aB ?aS ?aL ?_; (case aR => exact uC HR1 HB); (case aB => exact sB); (case aF => exact (fun k_ hk => Kd.fresh' (Kd.R_lt (uR HO478)) k_ hk)); (case aO => exact (by (with_reducible repeat (first | apply Kd.R_alloc | apply Kd.R_drewN | apply Kd.R_drew)); exact Kd.R_mono HO482.out (fun _ hk => hk.2))); (case aS => exact (zv sB)); (case aL => have := LMc67.out; omega); intro v484 w84 ho hb hg hat; rw [← Ny483.out] at ho; have HO485 := za.mk ho; replace HO_454002 := za.mk (Kd.R_over' (uR HO_454002) (Kd.R_typed (uR HO482)) (by decide) hg); replace BK453 := za.mk (zq (g := gb453) (o := .cells #[.int .i8 t448, .int .i8 t449, .slice Ao25 t450.length co25] 28 (0, 0)) (uK BK453) hg (Kd.R_ne HO482.out BK453.out (by decide))); replace BK454 := za.mk (zq (g := gb454) (o := .cells #[.int .i8 (IntKind.i8.wrap ((t450.length : Int))), .int .i8 t449, .bool true, .bool false] 50 (0, 0)) (uK BK454) hg (Kd.R_ne HO482.out BK454.out (by decide))); replace BK465 := za.mk (zq (g := gb465) (o := .cells #[.int .i8 ((zf t455 t463).f0), .bool ((zf t455 t463).f1)] 38 (0, 0)) (uK BK465) hg (Kd.R_ne HO482.out BK465.out (by decide))); replace BK471 := za.mk (zq (g := gb471) (o := .cells #[.int .i8 t466, .int .i8 t467, .int .i8 t468, .int .i8 t469] 43 (0, 0)) (uK BK471) hg (Kd.R_ne HO482.out BK471.out (by decide))); replace BK472 := za.mk (zq (g := gb472) (o := .cells #[.int .i8 x473000_3, .int .i8 x473001_3, .int .i8 x473002_3, .int .i8 x473003_3] 43 (0, 0)) (uK BK472) hg (Kd.R_ne HO482.out BK472.out (by decide))); replace HO478 := za.mk (Kd.R_after (ok := (fun _ => True)) (uR HO478) hg hat); replace HB := za.mk hb; clear HO482; clear ho hb hg hat; obtain ⟨Ao85, co85, eo85⟩ := Kd.R_slice HO485.out; subst eo85) | (go_at_call 7; (with_reducible refine (spec_P6Pick.calls _ _ y483 3 t486 _ ?side1 ?side2 A68.out).mono ?_); (case side1 => exact uQ HO485); (case side2 => exact (Kd.R_reads' HO485.out).2.1); rintro e w86 ⟨rfl, hb⟩; replace HO_454002 := dR HO_454002 hb; replace HO478 := dR HO478 hb; replace HO485 := dR HO485 hb; replace BK453 := dK BK453 hb; replace BK454 := dK BK454 hb; replace BK465 := dK BK465 hb; replace BK471 := dK BK471 hb; replace BK472 := dK BK472 hb; replace HB := za.mk (ze sB hb); try clear hb; have p87 : 0 ≤ (x18_3 : Int) := of_decide_eq_true (by first | (with_reducible assumption) | assumption); have q87 : x18_3 < (4 : Int) := of_decide_eq_true (by first | (with_reducible assumption) | assumption); replace p87 := eq_true p87; replace q87 := eq_true q87; have hnb88 := NB472_454.out; have hnc88 := NB454_472.out; have hnb89 := NB472_465.out; have hnc89 := NB465_472.out; have hnb90 := NB472_471.out; have hnc90 := NB471_472.out; obtain ⟨hcz91_0, hcz91_1, hcz91_2, hcz91_3⟩ := xc4 BK472; obtain ⟨hfz91_0, hfz91_1, hfz91_2, hfz91_3⟩ := xf4 BK472) | ((with_reducible refine zbb (t := 25) (p := 113) rfl ?_); (try (rw [zua w86]; generalize hq_ : World.drewN w86 _ = w86; have n0_ := za.mk (Kd.R_at hq_ HO_454002.out); have n1_ := za.mk (Kd.R_at hq_ HO478.out); have n2_ := za.mk (Kd.R_at hq_ HO485.out); have n3_ := za.mk (zab hq_ BK453.out); have n4_ := za.mk (zab hq_ BK454.out); have n5_ := za.mk (zab hq_ BK465.out); have n6_ := za.mk (zab hq_ BK471.out); have n7_ := za.mk (zab hq_ BK472.out); have n8_ := za.mk (zic hq_ HB.out); clear hq_ HO_454002 HO478 HO485 BK453 BK454 BK465 BK471 BK472 HB; have HO_454002 := n0_; have HO478 := n1_; have HO485 := n2_; have BK453 := n3_; have BK454 := n4_; have BK465 := n5_; have BK471 := n6_; have BK472 := n7_; have HB := n8_; clear n0_ n1_ n2_ n3_ n4_ n5_ n6_ n7_ n8_)); have hx92_0 : w86.cell? ⟨gb472, (x18_3).toNat, none⟩ = some (.int .i8 (rd [x473000_3, x473001_3, x473002_3, x473003_3] x18_3)) := (zh BK472.out _).trans (by rcases (show (x18_3 : Int) = 0 ∨ (x18_3 : Int) = 1 ∨ (x18_3 : Int) = 2 ∨ (x18_3 : Int) = 3 by have hp_ : 0 ≤ (x18_3 : Int) := of_decide_eq_true (by first | (with_reducible assumption) | assumption); have hq_ : x18_3 < (4 : Int) := of_decide_eq_true (by first | (with_reducible assumption) | assumption); omega) with h_ | h_ | h_ | h_ <;> rw [h_] <;> rfl); have hfz92_0 := zaa BK472.out ((x18_3).toNat); refine zza (t := 25) (p := 113) (v := ?vo_w93) (w1 := (w86.setCell ⟨gb472, (x18_3).toNat, none⟩ (.int .i8 (IntKind.i8.wrap (wrap64 (t486 - 1)))))) ?hg ?ho ?hn ?hr ?_; (case ho => rfl); (case hg => rfl); (case hn => rfl); (case hr => first | (go_simp; done) | (go_simp; rfl)); intro w93 hw; have n0_ : za (Kd.R k43 43 w93 w.heap.size (fun k_ => k_ ≠ gb471 ∧ k_ ≠ gb472) (.slice Ao25 t450.length co25) t450) := ⟨(by rw [hw]; exact (by (with_reducible repeat (first | apply Kd.R_alloc | apply Kd.R_drewN | apply Kd.R_drew)); exact Kd.R_mono (Kd.R_far (p := ⟨gb472, (x18_3).toNat, none⟩) (Kd.R_mono HO_454002.out (fun k_ hk => (⟨hk, hk.2⟩ : _ ∧ k_ ≠ gb472))) (fun _ hk => hk.2) (.int .i8 (IntKind.i8.wrap (wrap64 (t486 - 1))))) (fun _ hk => ⟨hk.1.1, hk.1.2⟩)))⟩; have n1_ : za (Kd.R (Kd.int .u8) 5 w93 w.heap.size (fun k_ => some k_ ≠ (.slice Ao85 y483.length co85 : Value).ownBlock) (.slice Ao80 y476.length co80) y476) := ⟨(by rw [hw]; exact (by (with_reducible repeat (first | apply Kd.R_alloc | apply Kd.R_drewN | apply Kd.R_drew)); exact Kd.R_mono (Kd.R_far (p := ⟨gb472, (x18_3).toNat, none⟩) (Kd.R_types HO478.out BK472.out (by decide)) (fun _ hk => hk.2) (.int .i8 (IntKind.i8.wrap (wrap64 (t486 - 1))))) (fun _ hk => hk.1.2)))⟩; have n2_ : za (Kd.R (Kd.int .u8) 5 w93 w.heap.size (fun k_ => some k_ ≠ (.slice Ao80 y476.length co80 : Value).ownBlock) (.slice Ao85 y483.length co85) y483) := ⟨(by rw [hw]; exact (by (with_reducible repeat (first | apply Kd.R_alloc | apply Kd.R_drewN | apply Kd.R_drew)); exact Kd.R_mono (Kd.R_far (p := ⟨gb472, (x18_3).toNat, none⟩) (Kd.R_types HO485.out BK472.out (by decide)) (fun _ hk => hk.2) (.int .i8 (IntKind.i8.wrap (wrap64 (t486 - 1))))) (fun _ hk => hk.1)))⟩; have n3_ : za (w93.heap[gb453]? = some (.cells #[.int .i8 t448, .int .i8 t449, .slice Ao25 t450.length co25] 28 (0, 0))) := ⟨(by rw [hw]; exact (by (with_reducible repeat (first | refine zc ?_ _ | refine zd ?_ | refine zb ?_ _)); refine zm ?_ NB453_472.out _; (with_reducible repeat (first | refine zc ?_ _ | refine zd ?_ | refine zb ?_ _)); exact BK453.out))⟩; have n4_ : za (w93.heap[gb454]? = some (.cells #[.int .i8 (IntKind.i8.wrap ((t450.length : Int))), .int .i8 t449, .bool true, .bool false] 50 (0, 0))) := ⟨(by rw [hw]; exact (by (with_reducible repeat (first | refine zc ?_ _ | refine zd ?_ | refine zb ?_ _)); refine zm ?_ NB454_472.out _; (with_reducible repeat (first | refine zc ?_ _ | refine zd ?_ | refine zb ?_ _)); exact BK454.out))⟩; have n5_ : za (w93.heap[gb465]? = some (.cells #[.int .i8 ((zf t455 t463).f0), .bool ((zf t455 t463).f1)] 38 (0, 0))) := ⟨(by rw [hw]; exact (by (with_reducible repeat (first | refine zc ?_ _ | refine zd ?_ | refine zb ?_ _)); refine zm ?_ NB465_472.out _; (with_reducible repeat (first | refine zc ?_ _ | refine zd ?_ | refine zb ?_ _)); exact BK465.out))⟩; have n6_ : za (w93.heap[gb471]? = some (.cells #[.int .i8 t466, .int .i8 t467, .int .i8 t468, .int .i8 t469] 43 (0, 0))) := ⟨(by rw [hw]; exact (by (with_reducible repeat (first | refine zc ?_ _ | refine zd ?_ | refine zb ?_ _)); refine zm ?_ NB471_472.out _; (with_reducible repeat (first | refine zc ?_ _ | refine zd ?_ | refine zb ?_ _)); exact BK471.out))⟩; have n7_ : za (w93.heap[gb472]? = some (.cells #[.int .i8 (zu x18_3 0 (IntKind.i8.wrap (wrap64 (t486 - 1))) x473000_3), .int .i8 (zu x18_3 1 (IntKind.i8.wrap (wrap64 (t486 - 1))) x473001_3), .int .i8 (zu x18_3 2 (IntKind.i8.wrap (wrap64 (t486 - 1))) x473002_3), .int .i8 (zu x18_3 3 (IntKind.i8.wrap (wrap64 (t486 - 1))) x473003_3)] 43 (0, 0))) := ⟨(by rw [hw]; exact (by (with_reducible repeat (first | refine zc ?_ _ | refine zd ?_ | refine zb ?_ _)); refine zl (cs := #[.int .i8 x473000_3, .int .i8 x473001_3, .int .i8 x473002_3, .int .i8 x473003_3]) ?_ ((x18_3).toNat) _ (by rcases (show (x18_3 : Int) = 0 ∨ (x18_3 : Int) = 1 ∨ (x18_3 : Int) = 2 ∨ (x18_3 : Int) = 3 by have hp_ : 0 ≤ (x18_3 : Int) := of_decide_eq_true (by first | (with_reducible assumption) | assumption); have hq_ : x18_3 < (4 : Int) := of_decide_eq_true (by first | (with_reducible assumption) | assumption); omega) with h_ | h_ | h_ | h_ <;> rw [h_] <;> rfl); (with_reducible repeat (first | refine zc ?_ _ | refine zd ?_ | refine zb ?_ _)); exact BK472.out))⟩; have n8_ : za (Below w.heap.size w w93) := ⟨(by rw [hw]; exact sB)⟩; clear hw; clear HO_454002; clear HO478; clear HO485; clear BK453; clear BK454; clear BK465; clear BK471; clear BK472; clear HB; have HO_454002 := n0_; have HO478 := n1_; have HO485 := n2_; have BK453 := n3_; have BK454 := n4_; have BK465 := n5_; have BK471 := n6_; have BK472 := n7_; have HB := n8_; clear n0_ n1_ n2_ n3_ n4_ n5_ n6_ n7_ n8_; have p94 : 0 ≤ (x18_3 : Int) := of_decide_eq_true (by first | (with_reducible assumption) | assumption); have q94 : x18_3 < (4 : Int) := of_decide_eq_true (by first | (with_reducible assumption) | assumption); replace p94 := eq_true p94; replace q94 := eq_true q94; obtain ⟨hcz95_0, hcz95_1, hcz95_2, hcz95_3⟩ := xc4 BK472; obtain ⟨hfz95_0, hfz95_1, hfz95_2, hfz95_3⟩ := xf4 BK472; have hx96_0 : w93.cell? ⟨gb472, (x18_3).toNat, none⟩ = some (.int .i8 (rd [(zu x18_3 0 (IntKind.i8.wrap (wrap64 (t486 - 1))) x473000_3), (zu x18_3 1 (IntKind.i8.wrap (wrap64 (t486 - 1))) x473001_3), (zu x18_3 2 (IntKind.i8.wrap (wrap64 (t486 - 1))) x473002_3), (zu x18_3 3 (IntKind.i8.wrap (wrap64 (t486 - 1))) x473003_3)] x18_3)) := (zh BK472.out _).trans (by rcases (show (x18_3 : Int) = 0 ∨ (x18_3 : Int) = 1 ∨ (x18_3 : Int) = 2 ∨ (x18_3 : Int) = 3 by have hp_ : 0 ≤ (x18_3 : Int) := of_decide_eq_true (by first | (with_reducible assumption) | assumption); have hq_ : x18_3 < (4 : Int) := of_decide_eq_true (by first | (with_reducible assumption) | assumption); omega) with h_ | h_ | h_ | h_ <;> rw [h_] <;> rfl); have p97 : 0 ≤ (x18_3 : Int) := of_decide_eq_true (by first | (with_reducible assumption) | assumption); have q97 : x18_3 < (4 : Int) := of_decide_eq_true (by first | (with_reducible assumption) | assumption); replace p97 := eq_true p97; replace q97 := eq_true q97; have hnb98 := NB471_454.out; have hnc98 := NB454_471.out; have hnb99 := NB471_465.out; have hnc99 := NB465_471.out; obtain ⟨hcz100_0, hcz100_1, hcz100_2, hcz100_3⟩ := xc4 BK471; obtain ⟨hfz100_0, hfz100_1, hfz100_2, hfz100_3⟩ := xf4 BK471; have hx101_0 : w93.cell? ⟨gb471, (x18_3).toNat, none⟩ = some (.int .i8 (rd [t466, t467, t468, t469] x18_3)) := (zh BK471.out _).trans (by rcases (show (x18_3 : Int) = 0 ∨ (x18_3 : Int) = 1 ∨ (x18_3 : Int) = 2 ∨ (x18_3 : Int) = 3 by have hp_ : 0 ≤ (x18_3 : Int) := of_decide_eq_true (by first | (with_reducible assumption) | assumption); have hq_ : x18_3 < (4 : Int) := of_decide_eq_true (by first | (with_reducible assumption) | assumption); omega) with h_ | h_ | h_ | h_ <;> rw [h_] <;> rfl)))
                repeat (go_quiet (fail); try go_wp2_with (first | ((with_reducible refine zn (N := 98) rfl ?_); refine Kd.R_lit (Kd.int .u8) _ 5 ?hg (N := 98) ?hd (xs := ([(x18_3) % 256] : List Int)) (inner := [.int .u8 ((x18_3) % 256)]) (ok := fun _ => True) (okp := fun _ => True) ?hr ?hp (fun _ hk => hk) trivial (Below.refl _ _) (Nat.le_refl _) (by simp) ?_; (case hd => rfl); (case hg => rfl); (case hr => first | (go_simp; done) | (go_simp; rfl)); (case hp => exact (Reps.one (show Kd.M (Kd.int .u8) _ _ _ ((x18_3) % 256) [.int .u8 ((x18_3) % 256)] from rfl) (Reps.none _ _))); intro v474 w77 ho78 hb hg_ hnew_; clear hg_ hnew_; (first | rw [← Ny473.out] at ho78 | (simp only [Int.reduceToNat] at ho78; rw [← Ny473.out] at ho78)); have HO475 := za.mk (Kd.R_lower ho78 (zv sB)); replace HO_454002 := dR HO_454002 hb; replace BK453 := dK BK453 hb; replace BK454 := dK BK454 hb; replace BK465 := dK BK465 hb; replace BK471 := dK BK471 hb; replace BK472 := dK BK472 hb; replace HB := za.mk (ze sB hb); clear hb ho78) | ((with_reducible refine zga (b := .append) (xs := #[.tmp 98, .tmp 99]) rfl ?_); at_builtin; refine Kd.R_append_rows (Kd.int .u8) (w0 := w) w.heap.size rfl (.tmp 98) (.tmp 99) 22 5 (.int .u8 0) 1 rfl Try.underlying22 zcc rfl (by decide) (by omega) v474 y473 l1 _ _ _ (fun _ => True) (fun _ => False) rfl rfl ?aO ?aR (fun _ _ h => h) (fun _ h => h.elim) ?aF ?aB ?aS ?aL ?_; (case aR => exact uC HR1 HB); (case aB => exact sB); (case aF => exact (fun _ _ => trivial)); (case aO => exact (uR HO475)); (case aS => exact (zv sB)); (case aL => have := LMc64.out; omega); intro v477 w79 ho hb hg hat; rw [← Ny476.out] at ho; have HO478 := za.mk ho; replace HO_454002 := za.mk (Kd.R_over' (uR HO_454002) (Kd.R_typed (uR HO475)) (by decide) hg); replace BK453 := za.mk (zq (g := gb453) (o := .cells #[.int .i8 t448, .int .i8 t449, .slice Ao25 t450.length co25] 28 (0, 0)) (uK BK453) hg (Kd.R_ne HO475.out BK453.out (by decide))); replace BK454 := za.mk (zq (g := gb454) (o := .cells #[.int .i8 (IntKind.i8.wrap ((t450.length : Int))), .int .i8 t449, .bool true, .bool false] 50 (0, 0)) (uK BK454) hg (Kd.R_ne HO475.out BK454.out (by decide))); replace BK465 := za.mk (zq (g := gb465) (o := .cells #[.int .i8 ((zf t455 t463).f0), .bool ((zf t455 t463).f1)] 38 (0, 0)) (uK BK465) hg (Kd.R_ne HO475.out BK465.out (by decide))); replace BK471 := za.mk (zq (g := gb471) (o := .cells #[.int .i8 t466, .int .i8 t467, .int .i8 t468, .int .i8 t469] 43 (0, 0)) (uK BK471) hg (Kd.R_ne HO475.out BK471.out (by decide))); replace BK472 := za.mk (zq (g := gb472) (o := .cells #[.int .i8 x473000_3, .int .i8 x473001_3, .int .i8 x473002_3, .int .i8 x473003_3] 43 (0, 0)) (uK BK472) hg (Kd.R_ne HO475.out BK472.out (by decide))); replace HB := za.mk hb; clear HO475; clear ho hb hg hat; obtain ⟨Ao80, co80, eo80⟩ := Kd.R_slice HO478.out; subst eo80) | (go_at_call 7; (with_reducible refine (spec_P6Pick.calls _ _ y476 4 t479 _ ?side1 ?side2 A65.out).mono ?_); (case side1 => exact uQ HO478); (case side2 => exact (Kd.R_reads' HO478.out).2.1); rintro e w81 ⟨rfl, hb⟩; replace HO_454002 := dR HO_454002 hb; replace HO478 := dR HO478 hb; replace BK453 := dK BK453 hb; replace BK454 := dK BK454 hb; replace BK465 := dK BK465 hb; replace BK471 := dK BK471 hb; replace BK472 := dK BK472 hb; replace HB := za.mk (ze sB hb); try clear hb) | ((with_reducible refine zn (N := 107) rfl ?_); refine Kd.R_lit (Kd.int .u8) _ 5 ?hg (N := 107) ?hd (xs := ([(wrap64 (x18_3 + 7)) % 256] : List Int)) (inner := [.int .u8 ((wrap64 (x18_3 + 7)) % 256)]) (ok := fun _ => True) (okp := fun _ => True) ?hr ?hp (fun _ hk => hk) trivial (Below.refl _ _) (Nat.le_refl _) (by simp) ?_; (case hd => rfl); (case hg => rfl); (case hr => first | (go_simp; done) | (go_simp; rfl)); (case hp => exact (Reps.one (show Kd.M (Kd.int .u8) _ _ _ ((wrap64 (x18_3 + 7)) % 256) [.int .u8 ((wrap64 (x18_3 + 7)) % 256)] from rfl) (Reps.none _ _))); intro v481 w82 ho83 hb hg_ hnew_; clear hg_ hnew_; (first | rw [← Ny480.out] at ho83 | (simp only [Int.reduceToNat] at ho83; rw [← Ny480.out] at ho83)); have HO482 := za.mk (Kd.R_lower (Kd.R_new' ho83 (Kd.R_lt (uR HO478))) (zv sB)); replace HO_454002 := dR HO_454002 hb; replace HO478 := za.mk (Kd.R_elder' (uR HO478) (Kd.R_base ho83) hb); replace BK453 := dK BK453 hb; replace BK454 := dK BK454 hb; replace BK465 := dK BK465 hb; replace BK471 := dK BK471 hb; replace BK472 := dK BK472 hb; replace HB := za.mk (ze sB hb); clear hb ho83) | ((with_reducible refine zga (b := .append) (xs := #[.tmp 107, .tmp 108]) rfl ?_); at_builtin; refine Kd.R_append_rows (Kd.int .u8) (w0 := w) w.heap.size rfl (.tmp 107) (.tmp 108) 22 5 (.int .u8 0) 1 rfl Try.underlying22 zcc rfl (by decide) (by omega) v481 y480 l1 _ _ _ (fun k_ => some k_ ≠ (.slice Ao80 y476.length co80 : Value).ownBlock) (fun _ => False) rfl rfl ?aO ?aR (fun _ _ h => h) (fun _ h => h.elim) ?aF ?aB ?aS ?aL ?_; (case aR => exact uC HR1 HB); (case aB => exact sB); (case aF => exact (fun k_ hk => Kd.fresh' (Kd.R_lt (uR HO478)) k_ hk)); (case aO => exact (by (with_reducible repeat (first | apply Kd.R_alloc | apply Kd.R_drewN | apply Kd.R_drew)); exact Kd.R_mono HO482.out (fun _ hk => hk.2))); (case aS => exact (zv sB)); (case aL => have := LMc67.out; omega); intro v484 w84 ho hb hg hat; rw [← Ny483.out] at ho; have HO485 := za.mk ho; replace HO_454002 := za.mk (Kd.R_over' (uR HO_454002) (Kd.R_typed (uR HO482)) (by decide) hg); replace BK453 := za.mk (zq (g := gb453) (o := .cells #[.int .i8 t448, .int .i8 t449, .slice Ao25 t450.length co25] 28 (0, 0)) (uK BK453) hg (Kd.R_ne HO482.out BK453.out (by decide))); replace BK454 := za.mk (zq (g := gb454) (o := .cells #[.int .i8 (IntKind.i8.wrap ((t450.length : Int))), .int .i8 t449, .bool true, .bool false] 50 (0, 0)) (uK BK454) hg (Kd.R_ne HO482.out BK454.out (by decide))); replace BK465 := za.mk (zq (g := gb465) (o := .cells #[.int .i8 ((zf t455 t463).f0), .bool ((zf t455 t463).f1)] 38 (0, 0)) (uK BK465) hg (Kd.R_ne HO482.out BK465.out (by decide))); replace BK471 := za.mk (zq (g := gb471) (o := .cells #[.int .i8 t466, .int .i8 t467, .int .i8 t468, .int .i8 t469] 43 (0, 0)) (uK BK471) hg (Kd.R_ne HO482.out BK471.out (by decide))); replace BK472 := za.mk (zq (g := gb472) (o := .cells #[.int .i8 x473000_3, .int .i8 x473001_3, .int .i8 x473002_3, .int .i8 x473003_3] 43 (0, 0)) (uK BK472) hg (Kd.R_ne HO482.out BK472.out (by decide))); replace HO478 := za.mk (Kd.R_after (ok := (fun _ => True)) (uR HO478) hg hat); replace HB := za.mk hb; clear HO482; clear ho hb hg hat; obtain ⟨Ao85, co85, eo85⟩ := Kd.R_slice HO485.out; subst eo85) | (go_at_call 7; (with_reducible refine (spec_P6Pick.calls _ _ y483 3 t486 _ ?side1 ?side2 A68.out).mono ?_); (case side1 => exact uQ HO485); (case side2 => exact (Kd.R_reads' HO485.out).2.1); rintro e w86 ⟨rfl, hb⟩; replace HO_454002 := dR HO_454002 hb; replace HO478 := dR HO478 hb; replace HO485 := dR HO485 hb; replace BK453 := dK BK453 hb; replace BK454 := dK BK454 hb; replace BK465 := dK BK465 hb; replace BK471 := dK BK471 hb; replace BK472 := dK BK472 hb; replace HB := za.mk (ze sB hb); try clear hb; have p87 : 0 ≤ (x18_3 : Int) := of_decide_eq_true (by first | (with_reducible assumption) | assumption); have q87 : x18_3 < (4 : Int) := of_decide_eq_true (by first | (with_reducible assumption) | assumption); replace p87 := eq_true p87; replace q87 := eq_true q87; have hnb88 := NB472_454.out; have hnc88 := NB454_472.out; have hnb89 := NB472_465.out; have hnc89 := NB465_472.out; have hnb90 := NB472_471.out; have hnc90 := NB471_472.out; obtain ⟨hcz91_0, hcz91_1, hcz91_2, hcz91_3⟩ := xc4 BK472; obtain ⟨hfz91_0, hfz91_1, hfz91_2, hfz91_3⟩ := xf4 BK472) | ((with_reducible refine zbb (t := 25) (p := 113) rfl ?_); (try (rw [zua w86]; generalize hq_ : World.drewN w86 _ = w86; have n0_ := za.mk (Kd.R_at hq_ HO_454002.out); have n1_ := za.mk (Kd.R_at hq_ HO478.out); have n2_ := za.mk (Kd.R_at hq_ HO485.out); have n3_ := za.mk (zab hq_ BK453.out); have n4_ := za.mk (zab hq_ BK454.out); have n5_ := za.mk (zab hq_ BK465.out); have n6_ := za.mk (zab hq_ BK471.out); have n7_ := za.mk (zab hq_ BK472.out); have n8_ := za.mk (zic hq_ HB.out); clear hq_ HO_454002 HO478 HO485 BK453 BK454 BK465 BK471 BK472 HB; have HO_454002 := n0_; have HO478 := n1_; have HO485 := n2_; have BK453 := n3_; have BK454 := n4_; have BK465 := n5_; have BK471 := n6_; have BK472 := n7_; have HB := n8_; clear n0_ n1_ n2_ n3_ n4_ n5_ n6_ n7_ n8_)); have hx92_0 : w86.cell? ⟨gb472, (x18_3).toNat, none⟩ = some (.int .i8 (rd [x473000_3, x473001_3, x473002_3, x473003_3] x18_3)) := (zh BK472.out _).trans (by rcases (show (x18_3 : Int) = 0 ∨ (x18_3 : Int) = 1 ∨ (x18_3 : Int) = 2 ∨ (x18_3 : Int) = 3 by have hp_ : 0 ≤ (x18_3 : Int) := of_decide_eq_true (by first | (with_reducible assumption) | assumption); have hq_ : x18_3 < (4 : Int) := of_decide_eq_true (by first | (with_reducible assumption) | assumption); omega) with h_ | h_ | h_ | h_ <;> rw [h_] <;> rfl); have hfz92_0 := zaa BK472.out ((x18_3).toNat); refine zza (t := 25) (p := 113) (v := ?vo_w93) (w1 := (w86.setCell ⟨gb472, (x18_3).toNat, none⟩ (.int .i8 (IntKind.i8.wrap (wrap64 (t486 - 1)))))) ?hg ?ho ?hn ?hr ?_; (case ho => rfl); (case hg => rfl); (case hn => rfl); (case hr => first | (go_simp; done) | (go_simp; rfl)); intro w93 hw; have n0_ : za (Kd.R k43 43 w93 w.heap.size (fun k_ => k_ ≠ gb471 ∧ k_ ≠ gb472) (.slice Ao25 t450.length co25) t450) := ⟨(by rw [hw]; exact (by (with_reducible repeat (first | apply Kd.R_alloc | apply Kd.R_drewN | apply Kd.R_drew)); exact Kd.R_mono (Kd.R_far (p := ⟨gb472, (x18_3).toNat, none⟩) (Kd.R_mono HO_454002.out (fun k_ hk => (⟨hk, hk.2⟩ : _ ∧ k_ ≠ gb472))) (fun _ hk => hk.2) (.int .i8 (IntKind.i8.wrap (wrap64 (t486 - 1))))) (fun _ hk => ⟨hk.1.1, hk.1.2⟩)))⟩; have n1_ : za (Kd.R (Kd.int .u8) 5 w93 w.heap.size (fun k_ => some k_ ≠ (.slice Ao85 y483.length co85 : Value).ownBlock) (.slice Ao80 y476.length co80) y476) := ⟨(by rw [hw]; exact (by (with_reducible repeat (first | apply Kd.R_alloc | apply Kd.R_drewN | apply Kd.R_drew)); exact Kd.R_mono (Kd.R_far (p := ⟨gb472, (x18_3).toNat, none⟩) (Kd.R_types HO478.out BK472.out (by decide)) (fun _ hk => hk.2) (.int .i8 (IntKind.i8.wrap (wrap64 (t486 - 1))))) (fun _ hk => hk.1.2)))⟩; have n2_ : za (Kd.R (Kd.int .u8) 5 w93 w.heap.size (fun k_ => some k_ ≠ (.slice Ao80 y476.length co80 : Value).ownBlock) (.slice Ao85 y483.length co85) y483) := ⟨(by rw [hw]; exact (by (with_reducible repeat (first | apply Kd.R_alloc | apply Kd.R_drewN | apply Kd.R_drew)); exact Kd.R_mono (Kd.R_far (p := ⟨gb472, (x18_3).toNat, none⟩) (Kd.R_types HO485.out BK472.out (by decide)) (fun _ hk => hk.2) (.int .i8 (IntKind.i8.wrap (wrap64 (t486 - 1))))) (fun _ hk => hk.1)))⟩; have n3_ : za (w93.heap[gb453]? = some (.cells #[.int .i8 t448, .int .i8 t449, .slice Ao25 t450.length co25] 28 (0, 0))) := ⟨(by rw [hw]; exact (by (with_reducible repeat (first | refine zc ?_ _ | refine zd ?_ | refine zb ?_ _)); refine zm ?_ NB453_472.out _; (with_reducible repeat (first | refine zc ?_ _ | refine zd ?_ | refine zb ?_ _)); exact BK453.out))⟩; have n4_ : za (w93.heap[gb454]? = some (.cells #[.int .i8 (IntKind.i8.wrap ((t450.length : Int))), .int .i8 t449, .bool true, .bool false] 50 (0, 0))) := ⟨(by rw [hw]; exact (by (with_reducible repeat (first | refine zc ?_ _ | refine zd ?_ | refine zb ?_ _)); refine zm ?_ NB454_472.out _; (with_reducible repeat (first | refine zc ?_ _ | refine zd ?_ | refine zb ?_ _)); exact BK454.out))⟩; have n5_ : za (w93.heap[gb465]? = some (.cells #[.int .i8 ((zf t455 t463).f0), .bool ((zf t455 t463).f1)] 38 (0, 0))) := ⟨(by rw [hw]; exact (by (with_reducible repeat (first | refine zc ?_ _ | refine zd ?_ | refine zb ?_ _)); refine zm ?_ NB465_472.out _; (with_reducible repeat (first | refine zc ?_ _ | refine zd ?_ | refine zb ?_ _)); exact BK465.out))⟩; have n6_ : za (w93.heap[gb471]? = some (.cells #[.int .i8 t466, .int .i8 t467, .int .i8 t468, .int .i8 t469] 43 (0, 0))) := ⟨(by rw [hw]; exact (by (with_reducible repeat (first | refine zc ?_ _ | refine zd ?_ | refine zb ?_ _)); refine zm ?_ NB471_472.out _; (with_reducible repeat (first | refine zc ?_ _ | refine zd ?_ | refine zb ?_ _)); exact BK471.out))⟩; have n7_ : za (w93.heap[gb472]? = some (.cells #[.int .i8 (zu x18_3 0 (IntKind.i8.wrap (wrap64 (t486 - 1))) x473000_3), .int .i8 (zu x18_3 1 (IntKind.i8.wrap (wrap64 (t486 - 1))) x473001_3), .int .i8 (zu x18_3 2 (IntKind.i8.wrap (wrap64 (t486 - 1))) x473002_3), .int .i8 (zu x18_3 3 (IntKind.i8.wrap (wrap64 (t486 - 1))) x473003_3)] 43 (0, 0))) := ⟨(by rw [hw]; exact (by (with_reducible repeat (first | refine zc ?_ _ | refine zd ?_ | refine zb ?_ _)); refine zl (cs := #[.int .i8 x473000_3, .int .i8 x473001_3, .int .i8 x473002_3, .int .i8 x473003_3]) ?_ ((x18_3).toNat) _ (by rcases (show (x18_3 : Int) = 0 ∨ (x18_3 : Int) = 1 ∨ (x18_3 : Int) = 2 ∨ (x18_3 : Int) = 3 by have hp_ : 0 ≤ (x18_3 : Int) := of_decide_eq_true (by first | (with_reducible assumption) | assumption); have hq_ : x18_3 < (4 : Int) := of_decide_eq_true (by first | (with_reducible assumption) | assumption); omega) with h_ | h_ | h_ | h_ <;> rw [h_] <;> rfl); (with_reducible repeat (first | refine zc ?_ _ | refine zd ?_ | refine zb ?_ _)); exact BK472.out))⟩; have n8_ : za (Below w.heap.size w w93) := ⟨(by rw [hw]; exact sB)⟩; clear hw; clear HO_454002; clear HO478; clear HO485; clear BK453; clear BK454; clear BK465; clear BK471; clear BK472; clear HB; have HO_454002 := n0_; have HO478 := n1_; have HO485 := n2_; have BK453 := n3_; have BK454 := n4_; have BK465 := n5_; have BK471 := n6_; have BK472 := n7_; have HB := n8_; clear n0_ n1_ n2_ n3_ n4_ n5_ n6_ n7_ n8_; have p94 : 0 ≤ (x18_3 : Int) := of_decide_eq_true (by first | (with_reducible assumption) | assumption); have q94 : x18_3 < (4 : Int) := of_decide_eq_true (by first | (with_reducible assumption) | assumption); replace p94 := eq_true p94; replace q94 := eq_true q94; obtain ⟨hcz95_0, hcz95_1, hcz95_2, hcz95_3⟩ := xc4 BK472; obtain ⟨hfz95_0, hfz95_1, hfz95_2, hfz95_3⟩ := xf4 BK472; have hx96_0 : w93.cell? ⟨gb472, (x18_3).toNat, none⟩ = some (.int .i8 (rd [(zu x18_3 0 (IntKind.i8.wrap (wrap64 (t486 - 1))) x473000_3), (zu x18_3 1 (IntKind.i8.wrap (wrap64 (t486 - 1))) x473001_3), (zu x18_3 2 (IntKind.i8.wrap (wrap64 (t486 - 1))) x473002_3), (zu x18_3 3 (IntKind.i8.wrap (wrap64 (t486 - 1))) x473003_3)] x18_3)) := (zh BK472.out _).trans (by rcases (show (x18_3 : Int) = 0 ∨ (x18_3 : Int) = 1 ∨ (x18_3 : Int) = 2 ∨ (x18_3 : Int) = 3 by have hp_ : 0 ≤ (x18_3 : Int) := of_decide_eq_true (by first | (with_reducible assumption) | assumption); have hq_ : x18_3 < (4 : Int) := of_decide_eq_true (by first | (with_reducible assumption) | assumption); omega) with h_ | h_ | h_ | h_ <;> rw [h_] <;> rfl); have p97 : 0 ≤ (x18_3 : Int) := of_decide_eq_true (by first | (with_reducible assumption) | assumption); have q97 : x18_3 < (4 : Int) := of_decide_eq_true (by first | (with_reducible assumption) | assumption); replace p97 := eq_true p97; replace q97 := eq_true q97; have hnb98 := NB471_454.out; have hnc98 := NB454_471.out; have hnb99 := NB471_465.out; have hnc99 := NB465_471.out; obtain ⟨hcz100_0, hcz100_1, hcz100_2, hcz100_3⟩ := xc4 BK471; obtain ⟨hfz100_0, hfz100_1, hfz100_2, hfz100_3⟩ := xf4 BK471; have hx101_0 : w93.cell? ⟨gb471, (x18_3).toNat, none⟩ = some (.int .i8 (rd [t466, t467, t468, t469] x18_3)) := (zh BK471.out _).trans (by rcases (show (x18_3 : Int) = 0 ∨ (x18_3 : Int) = 1 ∨ (x18_3 : Int) = 2 ∨ (x18_3 : Int) = 3 by have hp_ : 0 ≤ (x18_3 : Int) := of_decide_eq_true (by first | (with_reducible assumption) | assumption); have hq_ : x18_3 < (4 : Int) := of_decide_eq_true (by first | (with_reducible assumption) | assumption); omega) with h_ | h_ | h_ | h_ <;> rw [h_] <;> rfl))))
                go_roundg k3
                case measure => have := HJ2.out; have := HJ20.out; have := HK3.out; omega
                case rel => exact ⟨(x17_3), (wrap64 (x18_3 + 1)), ((zu x18_3 0 (IntKind.i8.wrap (wrap64 (t486 - 1))) x473000_3)), ((zu x18_3 1 (IntKind.i8.wrap (wrap64 (t486 - 1))) x473001_3)), ((zu x18_3 2 (IntKind.i8.wrap (wrap64 (t486 - 1))) x473002_3)), ((zu x18_3 3 (IntKind.i8.wrap (wrap64 (t486 - 1))) x473003_3)), (by first | rfl | (simp; done) | (simp [*]; done)), (by first | rfl | (simp; done) | (simp [*]; done)), H', ⟨by have := HJ2.out; have := HJ20.out; have := HK3.out; omega⟩, ⟨uR HO_454002⟩, ⟨uK BK453⟩, ⟨uK BK454⟩, ⟨uK BK465⟩, ⟨uK BK471⟩, ⟨uK BK472⟩, ⟨sB⟩⟩
               rw [if_neg c71] at H
               have c71b0 : ((rd [(zu x18_3 0 (IntKind.i8.wrap (wrap64 (t486 - 1))) x473000_3), (zu x18_3 1 (IntKind.i8.wrap (wrap64 (t486 - 1))) x473001_3), (zu x18_3 2 (IntKind.i8.wrap (wrap64 (t486 - 1))) x473002_3), (zu x18_3 3 (IntKind.i8.wrap (wrap64 (t486 - 1))) x473003_3)] x18_3) == (rd [t466, t467, t468, t469] x18_3)) = false := beq_eq_false_iff_ne.mpr c71
               have c71b1 : ((rd [(zu x18_3 0 (IntKind.i8.wrap (wrap64 (t486 - 1))) x473000_3), (zu x18_3 1 (IntKind.i8.wrap (wrap64 (t486 - 1))) x473001_3), (zu x18_3 2 (IntKind.i8.wrap (wrap64 (t486 - 1))) x473002_3), (zu x18_3 3 (IntKind.i8.wrap (wrap64 (t486 - 1))) x473003_3)] x18_3) != (rd [t466, t467, t468, t469] x18_3)) = true := bne_iff_ne.mpr c71
               (try (have c71b2 : ((rd [(zu x18_3 0 (IntKind.i8.wrap (IntKind.i64.wrap (t486 - 1))) x473000_3), (zu x18_3 1 (IntKind.i8.wrap (IntKind.i64.wrap (t486 - 1))) x473001_3), (zu x18_3 2 (IntKind.i8.wrap (IntKind.i64.wrap (t486 - 1))) x473002_3), (zu x18_3 3 (IntKind.i8.wrap (IntKind.i64.wrap (t486 - 1))) x473003_3)] x18_3) == (rd [t466, t467, t468, t469] x18_3)) = false := by have h_ : ((rd [(zu x18_3 0 (IntKind.i8.wrap (wrap64 (t486 - 1))) x473000_3), (zu x18_3 1 (IntKind.i8.wrap (wrap64 (t486 - 1))) x473001_3), (zu x18_3 2 (IntKind.i8.wrap (wrap64 (t486 - 1))) x473002_3), (zu x18_3 3 (IntKind.i8.wrap (wrap64 (t486 - 1))) x473003_3)] x18_3) == (rd [t466, t467, t468, t469] x18_3)) = false := beq_eq_false_iff_ne.mpr c71; simpa only [zda, zfa] using h_))
               (try (have c71b3 : ((rd [(zu x18_3 0 (IntKind.i8.wrap (IntKind.i64.wrap (t486 - 1))) x473000_3), (zu x18_3 1 (IntKind.i8.wrap (IntKind.i64.wrap (t486 - 1))) x473001_3), (zu x18_3 2 (IntKind.i8.wrap (IntKind.i64.wrap (t486 - 1))) x473002_3), (zu x18_3 3 (IntKind.i8.wrap (IntKind.i64.wrap (t486 - 1))) x473003_3)] x18_3) != (rd [t466, t467, t468, t469] x18_3)) = true := by have h_ : ((rd [(zu x18_3 0 (IntKind.i8.wrap (wrap64 (t486 - 1))) x473000_3), (zu x18_3 1 (IntKind.i8.wrap (wrap64 (t486 - 1))) x473001_3), (zu x18_3 2 (IntKind.i8.wrap (wrap64 (t486 - 1))) x473002_3), (zu x18_3 3 (IntKind.i8.wrap (wrap64 (t486 - 1))) x473003_3)] x18_3) != (rd [t466, t467, t468, t469] x18_3)) = true := bne_iff_ne.mpr c71; simpa only [zda, zfa] using h_))
               have H' := za.mk H
               clear H
               have hnb102 := NB453_454.out
               have hnc102 := NB454_453.out
               have hnb103 := NB453_465.out
               have hnc103 := NB465_453.out
               have hnb104 := NB453_471.out
               have hnc104 := NB471_453.out
               have hnb105 := NB453_472.out
               have hnc105 := NB472_453.out
               obtain ⟨hcz106_0, hcz106_1, hcz106_2⟩ := xc3 BK453
               obtain ⟨hfz106_0, hfz106_1, hfz106_2⟩ := xf3 BK453
               go_wp2_with (first | ((with_reducible refine zn (N := 98) rfl ?_); refine Kd.R_lit (Kd.int .u8) _ 5 ?hg (N := 98) ?hd (xs := ([(x18_3) % 256] : List Int)) (inner := [.int .u8 ((x18_3) % 256)]) (ok := fun _ => True) (okp := fun _ => True) ?hr ?hp (fun _ hk => hk) trivial (Below.refl _ _) (Nat.le_refl _) (by simp) ?_; (case hd => rfl); (case hg => rfl); (case hr => first | (go_simp; done) | (go_simp; rfl)); (case hp => exact (Reps.one (show Kd.M (Kd.int .u8) _ _ _ ((x18_3) % 256) [.int .u8 ((x18_3) % 256)] from rfl) (Reps.none _ _))); intro v474 w107 ho108 hb hg_ hnew_; clear hg_ hnew_; (first | rw [← Ny473.out] at ho108 | (simp only [Int.reduceToNat] at ho108; rw [← Ny473.out] at ho108)); have HO475 := za.mk (Kd.R_lower ho108 (zv sB)); replace HO_454002 := dR HO_454002 hb; replace BK453 := dK BK453 hb; replace BK454 := dK BK454 hb; replace BK465 := dK BK465 hb; replace BK471 := dK BK471 hb; replace BK472 := dK BK472 hb; replace HB := za.mk (ze sB hb); clear hb ho108) | ((with_reducible refine zga (b := .append) (xs := #[.tmp 98, .tmp 99]) rfl ?_); at_builtin; refine Kd.R_append_rows (Kd.int .u8) (w0 := w) w.heap.size rfl (.tmp 98) (.tmp 99) 22 5 (.int .u8 0) 1 rfl Try.underlying22 zcc rfl (by decide) (by omega) v474 y473 l1 _ _ _ (fun _ => True) (fun _ => False) rfl rfl ?aO ?aR (fun _ _ h => h) (fun _ h => h.elim) ?aF ?aB ?aS ?aL ?_; (case aR => exact uC HR1 HB); (case aB => exact sB); (case aF => exact (fun _ _ => trivial)); (case aO => exact (uR HO475)); (case aS => exact (zv sB)); (case aL => have := LMc64.out; omega); intro v477 w109 ho hb hg hat; rw [← Ny476.out] at ho; have HO478 := za.mk ho; replace HO_454002 := za.mk (Kd.R_over' (uR HO_454002) (Kd.R_typed (uR HO475)) (by decide) hg); replace BK453 := za.mk (zq (g := gb453) (o := .cells #[.int .i8 t448, .int .i8 t449, .slice Ao25 t450.length co25] 28 (0, 0)) (uK BK453) hg (Kd.R_ne HO475.out BK453.out (by decide))); replace BK454 := za.mk (zq (g := gb454) (o := .cells #[.int .i8 (IntKind.i8.wrap ((t450.length : Int))), .int .i8 t449, .bool true, .bool false] 50 (0, 0)) (uK BK454) hg (Kd.R_ne HO475.out BK454.out (by decide))); replace BK465 := za.mk (zq (g := gb465) (o := .cells #[.int .i8 ((zf t455 t463).f0), .bool ((zf t455 t463).f1)] 38 (0, 0)) (uK BK465) hg (Kd.R_ne HO475.out BK465.out (by decide))); replace BK471 := za.mk (zq (g := gb471) (o := .cells #[.int .i8 t466, .int .i8 t467, .int .i8 t468, .int .i8 t469] 43 (0, 0)) (uK BK471) hg (Kd.R_ne HO475.out BK471.out (by decide))); replace BK472 := za.mk (zq (g := gb472) (o := .cells #[.int .i8 x473000_3, .int .i8 x473001_3, .int .i8 x473002_3, .int .i8 x473003_3] 43 (0, 0)) (uK BK472) hg (Kd.R_ne HO475.out BK472.out (by decide))); replace HB := za.mk hb; clear HO475; clear ho hb hg hat; obtain ⟨Ao110, co110, eo110⟩ := Kd.R_slice HO478.out; subst eo110) | (go_at_call 7; (with_reducible refine (spec_P6Pick.calls _ _ y476 4 t479 _ ?side1 ?side2 A65.out).mono ?_); (case side1 => exact uQ HO478); (case side2 => exact (Kd.R_reads' HO478.out).2.1); rintro e w111 ⟨rfl, hb⟩; replace HO_454002 := dR HO_454002 hb; replace HO478 := dR HO478 hb; replace BK453 := dK BK453 hb; replace BK454 := dK BK454 hb; replace BK465 := dK BK465 hb; replace BK471 := dK BK471 hb; replace BK472 := dK BK472 hb; replace HB := za.mk (ze sB hb); try clear hb) | ((with_reducible refine zn (N := 107) rfl ?_); refine Kd.R_lit (Kd.int .u8) _ 5 ?hg (N := 107) ?hd (xs := ([(wrap64 (x18_3 + 7)) % 256] : List Int)) (inner := [.int .u8 ((wrap64 (x18_3 + 7)) % 256)]) (ok := fun _ => True) (okp := fun _ => True) ?hr ?hp (fun _ hk => hk) trivial (Below.refl _ _) (Nat.le_refl _) (by simp) ?_; (case hd => rfl); (case hg => rfl); (case hr => first | (go_simp; done) | (go_simp; rfl)); (case hp => exact (Reps.one (show Kd.M (Kd.int .u8) _ _ _ ((wrap64 (x18_3 + 7)) % 256) [.int .u8 ((wrap64 (x18_3 + 7)) % 256)] from rfl) (Reps.none _ _))); intro v481 w112 ho113 hb hg_ hnew_; clear hg_ hnew_; (first | rw [← Ny480.out] at ho113 | (simp only [Int.reduceToNat] at ho113; rw [← Ny480.out] at ho113)); have HO482 := za.mk (Kd.R_lower (Kd.R_new' ho113 (Kd.R_lt (uR HO478))) (zv sB)); replace HO_454002 := dR HO_454002 hb; replace HO478 := za.mk (Kd.R_elder' (uR HO478) (Kd.R_base ho113) hb); replace BK453 := dK BK453 hb; replace BK454 := dK BK454 hb; replace BK465 := dK BK465 hb; replace BK471 := dK BK471 hb; replace BK472 := dK BK472 hb; replace HB := za.mk (ze sB hb); clear hb ho113) | ((with_reducible refine zga (b := .append) (xs := #[.tmp 107, .tmp 108]) rfl ?_); at_builtin; refine Kd.R_append_rows (Kd.int .u8) (w0 := w) w.heap.size rfl (.tmp 107) (.tmp 108) 22 5 (.int .u8 0) 1 rfl Try.underlying22 zcc rfl (by decide) (by omega) v481 y480 l1 _ _ _ (fun k_ => some k_ ≠ (.slice Ao110 y476.length co110 : Value).ownBlock) (fun _ => False) rfl rfl ?aO ?aR (fun _ _ h => h) (fun _ h => h.elim) ?aF ?aB ?aS ?aL ?_; (case aR => exact uC HR1 HB); (case aB => exact sB); (case aF => exact (fun k_ hk => Kd.fresh' (Kd.R_lt (uR HO478)) k_ hk)); (case aO => exact (by (with_reducible repeat (first | apply Kd.R_alloc | apply Kd.R_drewN | apply Kd.R_drew)); exact Kd.R_mono HO482.out (fun _ hk => hk.2))); (case aS => exact (zv sB)); (case aL => have := LMc67.out; omega); intro v484 w114 ho hb hg hat; rw [← Ny483.out] at ho; have HO485 := za.mk ho; replace HO_454002 := za.mk (Kd.R_over' (uR HO_454002) (Kd.R_typed (uR HO482)) (by decide) hg); replace BK453 := za.mk (zq (g := gb453) (o := .cells #[.int .i8 t448, .int .i8 t449, .slice Ao25 t450.length co25] 28 (0, 0)) (uK BK453) hg (Kd.R_ne HO482.out BK453.out (by decide))); replace BK454 := za.mk (zq (g := gb454) (o := .cells #[.int .i8 (IntKind.i8.wrap ((t450.length : Int))), .int .i8 t449, .bool true, .bool false] 50 (0, 0)) (uK BK454) hg (Kd.R_ne HO482.out BK454.out (by decide))); replace BK465 := za.mk (zq (g := gb465) (o := .cells #[.int .i8 ((zf t455 t463).f0), .bool ((zf t455 t463).f1)] 38 (0, 0)) (uK BK465) hg (Kd.R_ne HO482.out BK465.out (by decide))); replace BK471 := za.mk (zq (g := gb471) (o := .cells #[.int .i8 t466, .int .i8 t467, .int .i8 t468, .int .i8 t469] 43 (0, 0)) (uK BK471) hg (Kd.R_ne HO482.out BK471.out (by decide))); replace BK472 := za.mk (zq (g := gb472) (o := .cells #[.int .i8 x473000_3, .int .i8 x473001_3, .int .i8 x473002_3, .int .i8 x473003_3] 43 (0, 0)) (uK BK472) hg (Kd.R_ne HO482.out BK472.out (by decide))); replace HO478 := za.mk (Kd.R_after (ok := (fun _ => True)) (uR HO478) hg hat); replace HB := za.mk hb; clear HO482; clear ho hb hg hat; obtain ⟨Ao115, co115, eo115⟩ := Kd.R_slice HO485.out; subst eo115) | (go_at_call 7; (with_reducible refine (spec_P6Pick.calls _ _ y483 3 t486 _ ?side1 ?side2 A68.out).mono ?_); (case side1 => exact uQ HO485); (case side2 => exact (Kd.R_reads' HO485.out).2.1); rintro e w116 ⟨rfl, hb⟩; replace HO_454002 := dR HO_454002 hb; replace HO478 := dR HO478 hb; replace HO485 := dR HO485 hb; replace BK453 := dK BK453 hb; replace BK454 := dK BK454 hb; replace BK465 := dK BK465 hb; replace BK471 := dK BK471 hb; replace BK472 := dK BK472 hb; replace HB := za.mk (ze sB hb); try clear hb; have p117 : 0 ≤ (x18_3 : Int) := of_decide_eq_true (by first | (with_reducible assumption) | assumption); have q117 : x18_3 < (4 : Int) := of_decide_eq_true (by first | (with_reducible assumption) | assumption); replace p117 := eq_true p117; replace q117 := eq_true q117; have hnb118 := NB472_454.out; have hnc118 := NB454_472.out; have hnb119 := NB472_465.out; have hnc119 := NB465_472.out; have hnb120 := NB472_471.out; have hnc120 := NB471_472.out; obtain ⟨hcz121_0, hcz121_1, hcz121_2, hcz121_3⟩ := xc4 BK472; obtain ⟨hfz121_0, hfz121_1, hfz121_2, hfz121_3⟩ := xf4 BK472) | ((with_reducible refine zbb (t := 25) (p := 113) rfl ?_); (try (rw [zua w116]; generalize hq_ : World.drewN w116 _ = w116; have n0_ := za.mk (Kd.R_at hq_ HO_454002.out); have n1_ := za.mk (Kd.R_at hq_ HO478.out); have n2_ := za.mk (Kd.R_at hq_ HO485.out); have n3_ := za.mk (zab hq_ BK453.out); have n4_ := za.mk (zab hq_ BK454.out); have n5_ := za.mk (zab hq_ BK465.out); have n6_ := za.mk (zab hq_ BK471.out); have n7_ := za.mk (zab hq_ BK472.out); have n8_ := za.mk (zic hq_ HB.out); clear hq_ HO_454002 HO478 HO485 BK453 BK454 BK465 BK471 BK472 HB; have HO_454002 := n0_; have HO478 := n1_; have HO485 := n2_; have BK453 := n3_; have BK454 := n4_; have BK465 := n5_; have BK471 := n6_; have BK472 := n7_; have HB := n8_; clear n0_ n1_ n2_ n3_ n4_ n5_ n6_ n7_ n8_)); have hx122_0 : w116.cell? ⟨gb472, (x18_3).toNat, none⟩ = some (.int .i8 (rd [x473000_3, x473001_3, x473002_3, x473003_3] x18_3)) := (zh BK472.out _).trans (by rcases (show (x18_3 : Int) = 0 ∨ (x18_3 : Int) = 1 ∨ (x18_3 : Int) = 2 ∨ (x18_3 : Int) = 3 by have hp_ : 0 ≤ (x18_3 : Int) := of_decide_eq_true (by first | (with_reducible assumption) | assumption); have hq_ : x18_3 < (4 : Int) := of_decide_eq_true (by first | (with_reducible assumption) | assumption); omega) with h_ | h_ | h_ | h_ <;> rw [h_] <;> rfl); have hfz122_0 := zaa BK472.out ((x18_3).toNat); refine zza (t := 25) (p := 113) (v := ?vo_w123) (w1 := (w116.setCell ⟨gb472, (x18_3).toNat, none⟩ (.int .i8 (IntKind.i8.wrap (wrap64 (t486 - 1)))))) ?hg ?ho ?hn ?hr ?_; (case ho => rfl); (case hg => rfl); (case hn => rfl); (case hr => first | (go_simp; done) | (go_simp; rfl)); intro w123 hw; have n0_ : za (Kd.R k43 43 w123 w.heap.size (fun k_ => k_ ≠ gb471 ∧ k_ ≠ gb472) (.slice Ao25 t450.length co25) t450) := ⟨(by rw [hw]; exact (by (with_reducible repeat (first | apply Kd.R_alloc | apply Kd.R_drewN | apply Kd.R_drew)); exact Kd.R_mono (Kd.R_far (p := ⟨gb472, (x18_3).toNat, none⟩) (Kd.R_mono HO_454002.out (fun k_ hk => (⟨hk, hk.2⟩ : _ ∧ k_ ≠ gb472))) (fun _ hk => hk.2) (.int .i8 (IntKind.i8.wrap (wrap64 (t486 - 1))))) (fun _ hk => ⟨hk.1.1, hk.1.2⟩)))⟩; have n1_ : za (Kd.R (Kd.int .u8) 5 w123 w.heap.size (fun k_ => some k_ ≠ (.slice Ao115 y483.length co115 : Value).ownBlock) (.slice Ao110 y476.length co110) y476) := ⟨(by rw [hw]; exact (by (with_reducible repeat (first | apply Kd.R_alloc | apply Kd.R_drewN | apply Kd.R_drew)); exact Kd.R_mono (Kd.R_far (p := ⟨gb472, (x18_3).toNat, none⟩) (Kd.R_types HO478.out BK472.out (by decide)) (fun _ hk => hk.2) (.int .i8 (IntKind.i8.wrap (wrap64 (t486 - 1))))) (fun _ hk => hk.1.2)))⟩; have n2_ : za (Kd.R (Kd.int .u8) 5 w123 w.heap.size (fun k_ => some k_ ≠ (.slice Ao110 y476.length co110 : Value).ownBlock) (.slice Ao115 y483.length co115) y483) := ⟨(by rw [hw]; exact (by (with_reducible repeat (first | apply Kd.R_alloc | apply Kd.R_drewN | apply Kd.R_drew)); exact Kd.R_mono (Kd.R_far (p := ⟨gb472, (x18_3).toNat, none⟩) (Kd.R_types HO485.out BK472.out (by decide)) (fun _ hk => hk.2) (.int .i8 (IntKind.i8.wrap (wrap64 (t486 - 1))))) (fun _ hk => hk.1)))⟩; have n3_ : za (w123.heap[gb453]? = some (.cells #[.int .i8 t448, .int .i8 t449, .slice Ao25 t450.length co25] 28 (0, 0))) := ⟨(by rw [hw]; exact (by (with_reducible repeat (first | refine zc ?_ _ | refine zd ?_ | refine zb ?_ _)); refine zm ?_ NB453_472.out _; (with_reducible repeat (first | refine zc ?_ _ | refine zd ?_ | refine zb ?_ _)); exact BK453.out))⟩; have n4_ : za (w123.heap[gb454]? = some (.cells #[.int .i8 (IntKind.i8.wrap ((t450.length : Int))), .int .i8 t449, .bool true, .bool false] 50 (0, 0))) := ⟨(by rw [hw]; exact (by (with_reducible repeat (first | refine zc ?_ _ | refine zd ?_ | refine zb ?_ _)); refine zm ?_ NB454_472.out _; (with_reducible repeat (first | refine zc ?_ _ | refine zd ?_ | refine zb ?_ _)); exact BK454.out))⟩; have n5_ : za (w123.heap[gb465]? = some (.cells #[.int .i8 ((zf t455 t463).f0), .bool ((zf t455 t463).f1)] 38 (0, 0))) := ⟨(by rw [hw]; exact (by (with_reducible repeat (first | refine zc ?_ _ | refine zd ?_ | refine zb ?_ _)); refine zm ?_ NB465_472.out _; (with_reducible repeat (first | refine zc ?_ _ | refine zd ?_ | refine zb ?_ _)); exact BK465.out))⟩; have n6_ : za (w123.heap[gb471]? = some (.cells #[.int .i8 t466, .int .i8 t467, .int .i8 t468, .int .i8 t469] 43 (0, 0))) := ⟨(by rw [hw]; exact (by (with_reducible repeat (first | refine zc ?_ _ | refine zd ?_ | refine zb ?_ _)); refine zm ?_ NB471_472.out _; (with_reducible repeat (first | refine zc ?_ _ | refine zd ?_ | refine zb ?_ _)); exact BK471.out))⟩; have n7_ : za (w123.heap[gb472]? = some (.cells #[.int .i8 (zu x18_3 0 (IntKind.i8.wrap (wrap64 (t486 - 1))) x473000_3), .int .i8 (zu x18_3 1 (IntKind.i8.wrap (wrap64 (t486 - 1))) x473001_3), .int .i8 (zu x18_3 2 (IntKind.i8.wrap (wrap64 (t486 - 1))) x473002_3), .int .i8 (zu x18_3 3 (IntKind.i8.wrap (wrap64 (t486 - 1))) x473003_3)] 43 (0, 0))) := ⟨(by rw [hw]; exact (by (with_reducible repeat (first | refine zc ?_ _ | refine zd ?_ | refine zb ?_ _)); refine zl (cs := #[.int .i8 x473000_3, .int .i8 x473001_3, .int .i8 x473002_3, .int .i8 x473003_3]) ?_ ((x18_3).toNat) _ (by rcases (show (x18_3 : Int) = 0 ∨ (x18_3 : Int) = 1 ∨ (x18_3 : Int) = 2 ∨ (x18_3 : Int) = 3 by have hp_ : 0 ≤ (x18_3 : Int) := of_decide_eq_true (by first | (with_reducible assumption) | assumption); have hq_ : x18_3 < (4 : Int) := of_decide_eq_true (by first | (with_reducible assumption) | assumption); omega) with h_ | h_ | h_ | h_ <;> rw [h_] <;> rfl); (with_reducible repeat (first | refine zc ?_ _ | refine zd ?_ | refine zb ?_ _)); exact BK472.out))⟩; have n8_ : za (Below w.heap.size w w123) := ⟨(by rw [hw]; exact sB)⟩; clear hw; clear HO_454002; clear HO478; clear HO485; clear BK453; clear BK454; clear BK465; clear BK471; clear BK472; clear HB; have HO_454002 := n0_; have HO478 := n1_; have HO485 := n2_; have BK453 := n3_; have BK454 := n4_; have BK465 := n5_; have BK471 := n6_; have BK472 := n7_; have HB := n8_; clear n0_ n1_ n2_ n3_ n4_ n5_ n6_ n7_ n8_; have p124 : 0 ≤ (x18_3 : Int) := of_decide_eq_true (by first | (with_reducible assumption) | assumption); have q124 : x18_3 < (4 : Int) := of_decide_eq_true (by first | (with_reducible assumption) | assumption); replace p124 := eq_true p124; replace q124 := eq_true q124; obtain ⟨hcz125_0, hcz125_1, hcz125_2, hcz125_3⟩ := xc4 BK472; obtain ⟨hfz125_0, hfz125_1, hfz125_2, hfz125_3⟩ := xf4 BK472; have hx126_0 : w123.cell? ⟨gb472, (x18_3).toNat, none⟩ = some (.int .i8 (rd [(zu x18_3 0 (IntKind.i8.wrap (wrap64 (t486 - 1))) x473000_3), (zu x18_3 1 (IntKind.i8.wrap (wrap64 (t486 - 1))) x473001_3), (zu x18_3 2 (IntKind.i8.wrap (wrap64 (t486 - 1))) x473002_3), (zu x18_3 3 (IntKind.i8.wrap (wrap64 (t486 - 1))) x473003_3)] x18_3)) := (zh BK472.out _).trans (by rcases (show (x18_3 : Int) = 0 ∨ (x18_3 : Int) = 1 ∨ (x18_3 : Int) = 2 ∨ (x18_3 : Int) = 3 by have hp_ : 0 ≤ (x18_3 : Int) := of_decide_eq_true (by first | (with_reducible assumption) | assumption); have hq_ : x18_3 < (4 : Int) := of_decide_eq_true (by first | (with_reducible assumption) | assumption); omega) with h_ | h_ | h_ | h_ <;> rw [h_] <;> rfl); have p127 : 0 ≤ (x18_3 : Int) := of_decide_eq_true (by first | (with_reducible assumption) | assumption); have q127 : x18_3 < (4 : Int) := of_decide_eq_true (by first | (with_reducible assumption) | assumption); replace p127 := eq_true p127; replace q127 := eq_true q127; have hnb128 := NB471_454.out; have hnc128 := NB454_471.out; have hnb129 := NB471_465.out; have hnc129 := NB465_471.out; obtain ⟨hcz130_0, hcz130_1, hcz130_2, hcz130_3⟩ := xc4 BK471; obtain ⟨hfz130_0, hfz130_1, hfz130_2, hfz130_3⟩ := xf4 BK471; have hx131_0 : w123.cell? ⟨gb471, (x18_3).toNat, none⟩ = some (.int .i8 (rd [t466, t467, t468, t469] x18_3)) := (zh BK471.out _).trans (by rcases (show (x18_3 : Int) = 0 ∨ (x18_3 : Int) = 1 ∨ (x18_3 : Int) = 2 ∨ (x18_3 : Int) = 3 by have hp_ : 0 ≤ (x18_3 : Int) := of_decide_eq_true (by first | (with_reducible assumption) | assumption); have hq_ : x18_3 < (4 : Int) := of_decide_eq_true (by first | (with_reducible assumption) | assumption); omega) with h_ | h_ | h_ | h_ <;> rw [h_] <;> rfl)))
               repeat (go_quiet (fail); try go_wp2_with (first | ((with_reducible refine zn (N := 98) rfl ?_); refine Kd.R_lit (Kd.int .u8) _ 5 ?hg (N := 98) ?hd (xs := ([(x18_3) % 256] : List Int)) (inner := [.int .u8 ((x18_3) % 256)]) (ok := fun _ => True) (okp := fun _ => True) ?hr ?hp (fun _ hk => hk) trivial (Below.refl _ _) (Nat.le_refl _) (by simp) ?_; (case hd => rfl); (case hg => rfl); (case hr => first | (go_simp; done) | (go_simp; rfl)); (case hp => exact (Reps.one (show Kd.M (Kd.int .u8) _ _ _ ((x18_3) % 256) [.int .u8 ((x18_3) % 256)] from rfl) (Reps.none _ _))); intro v474 w107 ho108 hb hg_ hnew_; clear hg_ hnew_; (first | rw [← Ny473.out] at ho108 | (simp only [Int.reduceToNat] at ho108; rw [← Ny473.out] at ho108)); have HO475 := za.mk (Kd.R_lower ho108 (zv sB)); replace HO_454002 := dR HO_454002 hb; replace BK453 := dK BK453 hb; replace BK454 := dK BK454 hb; replace BK465 := dK BK465 hb; replace BK471 := dK BK471 hb; replace BK472 := dK BK472 hb; replace HB := za.mk (ze sB hb); clear hb ho108) | ((with_reducible refine zga (b := .append) (xs := #[.tmp 98, .tmp 99]) rfl ?_); at_builtin; refine Kd.R_append_rows (Kd.int .u8) (w0 := w) w.heap.size rfl (.tmp 98) (.tmp 99) 22 5 (.int .u8 0) 1 rfl Try.underlying22 zcc rfl (by decide) (by omega) v474 y473 l1 _ _ _ (fun _ => True) (fun _ => False) rfl rfl ?aO ?aR (fun _ _ h => h) (fun _ h => h.elim) ?aF ?aB ?aS ?aL ?_; (case aR => exact uC HR1 HB); (case aB => exact sB); (case aF => exact (fun _ _ => trivial)); (case aO => exact (uR HO475)); (case aS => exact (zv sB)); (case aL => have := LMc64.out; omega); intro v477 w109 ho hb hg hat; rw [← Ny476.out] at ho; have HO478 := za.mk ho; replace HO_454002 := za.mk (Kd.R_over' (uR HO_454002) (Kd.R_typed (uR HO475)) (by decide) hg); replace BK453 := za.mk (zq (g := gb453) (o := .cells #[.int .i8 t448, .int .i8 t449, .slice Ao25 t450.length co25] 28 (0, 0)) (uK BK453) hg (Kd.R_ne HO475.out BK453.out (by decide))); replace BK454 := za.mk (zq (g := gb454) (o := .cells #[.int .i8 (IntKind.i8.wrap ((t450.length : Int))), .int .i8 t449, .bool true, .bool false] 50 (0, 0)) (uK BK454) hg (Kd.R_ne HO475.out BK454.out (by decide))); replace BK465 := za.mk (zq (g := gb465) (o := .cells #[.int .i8 ((zf t455 t463).f0), .bool ((zf t455 t463).f1)] 38 (0, 0)) (uK BK465) hg (Kd.R_ne HO475.out BK465.out (by decide))); replace BK471 := za.mk (zq (g := gb471) (o := .cells #[.int .i8 t466, .int .i8 t467, .int .i8 t468, .int .i8 t469] 43 (0, 0)) (uK BK471) hg (Kd.R_ne HO475.out BK471.out (by decide))); replace BK472 := za.mk (zq (g := gb472) (o := .cells #[.int .i8 x473000_3, .int .i8 x473001_3, .int .i8 x473002_3, .int .i8 x473003_3] 43 (0, 0)) (uK BK472) hg (Kd.R_ne HO475.out BK472.out (by decide))); replace HB := za.mk hb; clear HO475; clear ho hb hg hat; obtain ⟨Ao110, co110, eo110⟩ := Kd.R_slice HO478.out; subst eo110) | (go_at_call 7; (with_reducible refine (spec_P6Pick.calls _ _ y476 4 t479 _ ?side1 ?side2 A65.out).mono ?_); (case side1 => exact uQ HO478); (case side2 => exact (Kd.R_reads' HO478.out).2.1); rintro e w111 ⟨rfl, hb⟩; replace HO_454002 := dR HO_454002 hb; replace HO478 := dR HO478 hb; replace BK453 := dK BK453 hb; replace BK454 := dK BK454 hb; replace BK465 := dK BK465 hb; replace BK471 := dK BK471 hb; replace BK472 := dK BK472 hb; replace HB := za.mk (ze sB hb); try clear hb) | ((with_reducible refine zn (N := 107) rfl ?_); refine Kd.R_lit (Kd.int .u8) _ 5 ?hg (N := 107) ?hd (xs := ([(wrap64 (x18_3 + 7)) % 256] : List Int)) (inner := [.int .u8 ((wrap64 (x18_3 + 7)) % 256)]) (ok := fun _ => True) (okp := fun _ => True) ?hr ?hp (fun _ hk => hk) trivial (Below.refl _ _) (Nat.le_refl _) (by simp) ?_; (case hd => rfl); (case hg => rfl); (case hr => first | (go_simp; done) | (go_simp; rfl)); (case hp => exact (Reps.one (show Kd.M (Kd.int .u8) _ _ _ ((wrap64 (x18_3 + 7)) % 256) [.int .u8 ((wrap64 (x18_3 + 7)) % 256)] from rfl) (Reps.none _ _))); intro v481 w112 ho113 hb hg_ hnew_; clear hg_ hnew_; (first | rw [← Ny480.out] at ho113 | (simp only [Int.reduceToNat] at ho113; rw [← Ny480.out] at ho113)); have HO482 := za.mk (Kd.R_lower (Kd.R_new' ho113 (Kd.R_lt (uR HO478))) (zv sB)); replace HO_454002 := dR HO_454002 hb; replace HO478 := za.mk (Kd.R_elder' (uR HO478) (Kd.R_base ho113) hb); replace BK453 := dK BK453 hb; replace BK454 := dK BK454 hb; replace BK465 := dK BK465 hb; replace BK471 := dK BK471 hb; replace BK472 := dK BK472 hb; replace HB := za.mk (ze sB hb); clear hb ho113) | ((with_reducible refine zga (b := .append) (xs := #[.tmp 107, .tmp 108]) rfl ?_); at_builtin; refine Kd.R_append_rows (Kd.int .u8) (w0 := w) w.heap.size rfl (.tmp 107) (.tmp 108) 22 5 (.int .u8 0) 1 rfl Try.underlying22 zcc rfl (by decide) (by omega) v481 y480 l1 _ _ _ (fun k_ => some k_ ≠ (.slice Ao110 y476.length co110 : Value).ownBlock) (fun _ => False) rfl rfl ?aO ?aR (fun _ _ h => h) (fun _ h => h.elim) ?aF ?aB ?aS ?aL ?_; (case aR => exact uC HR1 HB); (case aB => exact sB); (case aF => exact (fun k_ hk => Kd.fresh' (Kd.R_lt (uR HO478)) k_ hk)); (case aO => exact (by (with_reducible repeat (first | apply Kd.R_alloc | apply Kd.R_drewN | apply Kd.R_drew)); exact Kd.R_mono HO482.out (fun _ hk => hk.2))); (case aS => exact (zv sB)); (case aL => have := LMc67.out; omega); intro v484 w114 ho hb hg hat; rw [← Ny483.out] at ho; have HO485 := za.mk ho; replace HO_454002 := za.mk (Kd.R_over' (uR HO_454002) (Kd.R_typed (uR HO482)) (by decide) hg); replace BK453 := za.mk (zq (g := gb453) (o := .cells #[.int .i8 t448, .int .i8 t449, .slice Ao25 t450.length co25] 28 (0, 0)) (uK BK453) hg (Kd.R_ne HO482.out BK453.out (by decide))); replace BK454 := za.mk (zq (g := gb454) (o := .cells #[.int .i8 (IntKind.i8.wrap ((t450.length : Int))), .int .i8 t449, .bool true, .bool false] 50 (0, 0)) (uK BK454) hg (Kd.R_ne HO482.out BK454.out (by decide))); replace BK465 := za.mk (zq (g := gb465) (o := .cells #[.int .i8 ((zf t455 t463).f0), .bool ((zf t455 t463).f1)] 38 (0, 0)) (uK BK465) hg (Kd.R_ne HO482.out BK465.out (by decide))); replace BK471 := za.mk (zq (g := gb471) (o := .cells #[.int .i8 t466, .int .i8 t467, .int .i8 t468, .int .i8 t469] 43 (0, 0)) (uK BK471) hg (Kd.R_ne HO482.out BK471.out (by decide))); replace BK472 := za.mk (zq (g := gb472) (o := .cells #[.int .i8 x473000_3, .int .i8 x473001_3, .int .i8 x473002_3, .int .i8 x473003_3] 43 (0, 0)) (uK BK472) hg (Kd.R_ne HO482.out BK472.out (by decide))); replace HO478 := za.mk (Kd.R_after (ok := (fun _ => True)) (uR HO478) hg hat); replace HB := za.mk hb; clear HO482; clear ho hb hg hat; obtain ⟨Ao115, co115, eo115⟩ := Kd.R_slice HO485.out; subst eo115) | (go_at_call 7; (with_reducible refine (spec_P6Pick.calls _ _ y483 3 t486 _ ?side1 ?side2 A68.out).mono ?_); (case side1 => exact uQ HO485); (case side2 => exact (Kd.R_reads' HO485.out).2.1); rintro e w116 ⟨rfl, hb⟩; replace HO_454002 := dR HO_454002 hb; replace HO478 := dR HO478 hb; replace HO485 := dR HO485 hb; replace BK453 := dK BK453 hb; replace BK454 := dK BK454 hb; replace BK465 := dK BK465 hb; replace BK471 := dK BK471 hb; replace BK472 := dK BK472 hb; replace HB := za.mk (ze sB hb); try clear hb; have p117 : 0 ≤ (x18_3 : Int) := of_decide_eq_true (by first | (with_reducible assumption) | assumption); have q117 : x18_3 < (4 : Int) := of_decide_eq_true (by first | (with_reducible assumption) | assumption); replace p117 := eq_true p117; replace q117 := eq_true q117; have hnb118 := NB472_454.out; have hnc118 := NB454_472.out; have hnb119 := NB472_465.out; have hnc119 := NB465_472.out; have hnb120 := NB472_471.out; have hnc120 := NB471_472.out; obtain ⟨hcz121_0, hcz121_1, hcz121_2, hcz121_3⟩ := xc4 BK472; obtain ⟨hfz121_0, hfz121_1, hfz121_2, hfz121_3⟩ := xf4 BK472) | ((with_reducible refine zbb (t := 25) (p := 113) rfl ?_); (try (rw [zua w116]; generalize hq_ : World.drewN w116 _ = w116; have n0_ := za.mk (Kd.R_at hq_ HO_454002.out); have n1_ := za.mk (Kd.R_at hq_ HO478.out); have n2_ := za.mk (Kd.R_at hq_ HO485.out); have n3_ := za.mk (zab hq_ BK453.out); have n4_ := za.mk (zab hq_ BK454.out); have n5_ := za.mk (zab hq_ BK465.out); have n6_ := za.mk (zab hq_ BK471.out); have n7_ := za.mk (zab hq_ BK472.out); have n8_ := za.mk (zic hq_ HB.out); clear hq_ HO_454002 HO478 HO485 BK453 BK454 BK465 BK471 BK472 HB; have HO_454002 := n0_; have HO478 := n1_; have HO485 := n2_; have BK453 := n3_; have BK454 := n4_; have BK465 := n5_; have BK471 := n6_; have BK472 := n7_; have HB := n8_; clear n0_ n1_ n2_ n3_ n4_ n5_ n6_ n7_ n8_)); have hx122_0 : w116.cell? ⟨gb472, (x18_3).toNat, none⟩ = some (.int .i8 (rd [x473000_3, x473001_3, x473002_3, x473003_3] x18_3)) := (zh BK472.out _).trans (by rcases (show (x18_3 : Int) = 0 ∨ (x18_3 : Int) = 1 ∨ (x18_3 : Int) = 2 ∨ (x18_3 : Int) = 3 by have hp_ : 0 ≤ (x18_3 : Int) := of_decide_eq_true (by first | (with_reducible assumption) | assumption); have hq_ : x18_3 < (4 : Int) := of_decide_eq_true (by first | (with_reducible assumption) | assumption); omega) with h_ | h_ | h_ | h_ <;> rw [h_] <;> rfl); have hfz122_0 := zaa BK472.out ((x18_3).toNat); refine zza (t := 25) (p := 113) (v := ?vo_w123) (w1 := (w116.setCell ⟨gb472, (x18_3).toNat, none⟩ (.int .i8 (IntKind.i8.wrap (wrap64 (t486 - 1)))))) ?hg ?ho ?hn ?hr ?_; (case ho => rfl); (case hg => rfl); (case hn => rfl); (case hr => first | (go_simp; done) | (go_simp; rfl)); intro w123 hw; have n0_ : za (Kd.R k43 43 w123 w.heap.size (fun k_ => k_ ≠ gb471 ∧ k_ ≠ gb472) (.slice Ao25 t450.length co25) t450) := ⟨(by rw [hw]; exact (by (with_reducible repeat (first | apply Kd.R_alloc | apply Kd.R_drewN | apply Kd.R_drew)); exact Kd.R_mono (Kd.R_far (p := ⟨gb472, (x18_3).toNat, none⟩) (Kd.R_mono HO_454002.out (fun k_ hk => (⟨hk, hk.2⟩ : _ ∧ k_ ≠ gb472))) (fun _ hk => hk.2) (.int .i8 (IntKind.i8.wrap (wrap64 (t486 - 1))))) (fun _ hk => ⟨hk.1.1, hk.1.2⟩)))⟩; have n1_ : za (Kd.R (Kd.int .u8) 5 w123 w.heap.size (fun k_ => some k_ ≠ (.slice Ao115 y483.length co115 : Value).ownBlock) (.slice Ao110 y476.length co110) y476) := ⟨(by rw [hw]; exact (by (with_reducible repeat (first | apply Kd.R_alloc | apply Kd.R_drewN | apply Kd.R_drew)); exact Kd.R_mono (Kd.R_far (p := ⟨gb472, (x18_3).toNat, none⟩) (Kd.R_types HO478.out BK472.out (by decide)) (fun _ hk => hk.2) (.int .i8 (IntKind.i8.wrap (wrap64 (t486 - 1))))) (fun _ hk => hk.1.2)))⟩; have n2_ : za (Kd.R (Kd.int .u8) 5 w123 w.heap.size (fun k_ => some k_ ≠ (.slice Ao110 y476.length co110 : Value).ownBlock) (.slice Ao115 y483.length co115) y483) := ⟨(by rw [hw]; exact (by (with_reducible repeat (first | apply Kd.R_alloc | apply Kd.R_drewN | apply Kd.R_drew)); exact Kd.R_mono (Kd.R_far (p := ⟨gb472, (x18_3).toNat, none⟩) (Kd.R_types HO485.out BK472.out (by decide)) (fun _ hk => hk.2) (.int .i8 (IntKind.i8.wrap (wrap64 (t486 - 1))))) (fun _ hk => hk.1)))⟩; have n3_ : za (w123.heap[gb453]? = some (.cells #[.int .i8 t448, .int .i8 t449, .slice Ao25 t450.length co25] 28 (0, 0))) := ⟨(by rw [hw]; exact (by (with_reducible repeat (first | refine zc ?_ _ | refine zd ?_ | refine zb ?_ _)); refine zm ?_ NB453_472.out _; (with_reducible repeat (first | refine zc ?_ _ | refine zd ?_ | refine zb ?_ _)); exact BK453.out))⟩; have n4_ : za (w123.heap[gb454]? = some (.cells #[.int .i8 (IntKind.i8.wrap ((t450.length : Int))), .int .i8 t449, .bool true, .bool false] 50 (0, 0))) := ⟨(by rw [hw]; exact (by (with_reducible repeat (first | refine zc ?_ _ | refine zd ?_ | refine zb ?_ _)); refine zm ?_ NB454_472.out _; (with_reducible repeat (first | refine zc ?_ _ | refine zd ?_ | refine zb ?_ _)); exact BK454.out))⟩; have n5_ : za (w123.heap[gb465]? = some (.cells #[.int .i8 ((zf t455 t463).f0), .bool ((zf t455 t463).f1)] 38 (0, 0))) := ⟨(by rw [hw]; exact (by (with_reducible repeat (first | refine zc ?_ _ | refine zd ?_ | refine zb ?_ _)); refine zm ?_ NB465_472.out _; (with_reducible repeat (first | refine zc ?_ _ | refine zd ?_ | refine zb ?_ _)); exact BK465.out))⟩; have n6_ : za (w123.heap[gb471]? = some (.cells #[.int .i8 t466, .int .i8 t467, .int .i8 t468, .int .i8 t469] 43 (0, 0))) := ⟨(by rw [hw]; exact (by (with_reducible repeat (first | refine zc ?_ _ | refine zd ?_ | refine zb ?_ _)); refine zm ?_ NB471_472.out _; (with_reducible repeat (first | refine zc ?_ _ | refine zd ?_ | refine zb ?_ _)); exact BK471.out))⟩; have n7_ : za (w123.heap[gb472]? = some (.cells #[.int .i8 (zu x18_3 0 (IntKind.i8.wrap (wrap64 (t486 - 1))) x473000_3), .int .i8 (zu x18_3 1 (IntKind.i8.wrap (wrap64 (t486 - 1))) x473001_3), .int .i8 (zu x18_3 2 (IntKind.i8.wrap (wrap64 (t486 - 1))) x473002_3), .int .i8 (zu x18_3 3 (IntKind.i8.wrap (wrap64 (t486 - 1))) x473003_3)] 43 (0, 0))) := ⟨(by rw [hw]; exact (by (with_reducible repeat (first | refine zc ?_ _ | refine zd ?_ | refine zb ?_ _)); refine zl (cs := #[.int .i8 x473000_3, .int .i8 x473001_3, .int .i8 x473002_3, .int .i8 x473003_3]) ?_ ((x18_3).toNat) _ (by rcases (show (x18_3 : Int) = 0 ∨ (x18_3 : Int) = 1 ∨ (x18_3 : Int) = 2 ∨ (x18_3 : Int) = 3 by have hp_ : 0 ≤ (x18_3 : Int) := of_decide_eq_true (by first | (with_reducible assumption) | assumption); have hq_ : x18_3 < (4 : Int) := of_decide_eq_true (by first | (with_reducible assumption) | assumption); omega) with h_ | h_ | h_ | h_ <;> rw [h_] <;> rfl); (with_reducible repeat (first | refine zc ?_ _ | refine zd ?_ | refine zb ?_ _)); exact BK472.out))⟩; have n8_ : za (Below w.heap.size w w123) := ⟨(by rw [hw]; exact sB)⟩; clear hw; clear HO_454002; clear HO478; clear HO485; clear BK453; clear BK454; clear BK465; clear BK471; clear BK472; clear HB; have HO_454002 := n0_; have HO478 := n1_; have HO485 := n2_; have BK453 := n3_; have BK454 := n4_; have BK465 := n5_; have BK471 := n6_; have BK472 := n7_; have HB := n8_; clear n0_ n1_ n2_ n3_ n4_ n5_ n6_ n7_ n8_; have p124 : 0 ≤ (x18_3 : Int) := of_decide_eq_true (by first | (with_reducible assumption) | assumption); have q124 : x18_3 < (4 : Int) := of_decide_eq_true (by first | (with_reducible assumption) | assumption); replace p124 := eq_true p124; replace q124 := eq_true q124; obtain ⟨hcz125_0, hcz125_1, hcz125_2, hcz125_3⟩ := xc4 BK472; obtain ⟨hfz125_0, hfz125_1, hfz125_2, hfz125_3⟩ := xf4 BK472; have hx126_0 : w123.cell? ⟨gb472, (x18_3).toNat, none⟩ = some (.int .i8 (rd [(zu x18_3 0 (IntKind.i8.wrap (wrap64 (t486 - 1))) x473000_3), (zu x18_3 1 (IntKind.i8.wrap (wrap64 (t486 - 1))) x473001_3), (zu x18_3 2 (IntKind.i8.wrap (wrap64 (t486 - 1))) x473002_3), (zu x18_3 3 (IntKind.i8.wrap (wrap64 (t486 - 1))) x473003_3)] x18_3)) := (zh BK472.out _).trans (by rcases (show (x18_3 : Int) = 0 ∨ (x18_3 : Int) = 1 ∨ (x18_3 : Int) = 2 ∨ (x18_3 : Int) = 3 by have hp_ : 0 ≤ (x18_3 : Int) := of_decide_eq_true (by first | (with_reducible assumption) | assumption); have hq_ : x18_3 < (4 : Int) := of_decide_eq_true (by first | (with_reducible assumption) | assumption); omega) with h_ | h_ | h_ | h_ <;> rw [h_] <;> rfl); have p127 : 0 ≤ (x18_3 : Int) := of_decide_eq_true (by first | (with_reducible assumption) | assumption); have q127 : x18_3 < (4 : Int) := of_decide_eq_true (by first | (with_reducible assumption) | assumption); replace p127 := eq_true p127; replace q127 := eq_true q127; have hnb128 := NB471_454.out; have hnc128 := NB454_471.out; have hnb129 := NB471_465.out; have hnc129 := NB465_471.out; obtain ⟨hcz130_0, hcz130_1, hcz130_2, hcz130_3⟩ := xc4 BK471; obtain ⟨hfz130_0, hfz130_1, hfz130_2, hfz130_3⟩ := xf4 BK471; have hx131_0 : w123.cell? ⟨gb471, (x18_3).toNat, none⟩ = some (.int .i8 (rd [t466, t467, t468, t469] x18_3)) := (zh BK471.out _).trans (by rcases (show (x18_3 : Int) = 0 ∨ (x18_3 : Int) = 1 ∨ (x18_3 : Int) = 2 ∨ (x18_3 : Int) = 3 by have hp_ : 0 ≤ (x18_3 : Int) := of_decide_eq_true (by first | (with_reducible assumption) | assumption); have hq_ : x18_3 < (4 : Int) := of_decide_eq_true (by first | (with_reducible assumption) | assumption); omega) with h_ | h_ | h_ | h_ <;> rw [h_] <;> rfl))))
               go_roundg k3
               case measure => have := HJ2.out; have := HJ20.out; have := HK3.out; omega
               case rel => exact ⟨(wrap64 (x17_3 + 1)), (wrap64 (x18_3 + 1)), ((zu x18_3 0 (IntKind.i8.wrap (wrap64 (t486 - 1))) x473000_3)), ((zu x18_3 1 (IntKind.i8.wrap (wrap64 (t486 - 1))) x473001_3)), ((zu x18_3 2 (IntKind.i8.wrap (wrap64 (t486 - 1))) x473002_3)), ((zu x18_3 3 (IntKind.i8.wrap (wrap64 (t486 - 1))) x473003_3)), (by first | rfl | (simp; done) | (simp [*]; done)), (by first | rfl | (simp; done) | (simp [*]; done)), H', ⟨by have := HJ2.out; have := HJ20.out; have := HK3.out; omega⟩, ⟨uR HO_454002⟩, ⟨uK BK453⟩, ⟨uK BK454⟩, ⟨uK BK465⟩, ⟨uK BK471⟩, ⟨uK BK472⟩, ⟨sB⟩⟩
              rw [if_neg c70] at H
              exact absurd H (by simp)
             rw [if_neg c69] at H
             exact absurd H (by simp)
            rw [if_neg c67] at H
            exact absurd H (by simp)
           rw [if_neg c66] at H
           have c66b0 : (t479 == 0) = false := beq_eq_false_iff_ne.mpr c66
           have c66b1 : (t479 != 0) = true := bne_iff_ne.mpr c66
           by_cases c132 : 0 ≤ x18_3
           ·rw [if_pos c132] at H
            have c132b0 : decide (0 ≤ x18_3) = true := decide_eq_true c132
            clear c132
            by_cases c133 : x18_3 < 4
            ·rw [if_pos c133] at H
             have c133b0 : decide (x18_3 < 4) = true := decide_eq_true c133
             clear c133
             by_cases c134 : (rd [x473000_3, x473001_3, x473002_3, x473003_3] x18_3) = (rd [t466, t467, t468, t469] x18_3)
             ·rw [if_pos c134] at H
              have c134b0 : ((rd [x473000_3, x473001_3, x473002_3, x473003_3] x18_3) == (rd [t466, t467, t468, t469] x18_3)) = true := beq_iff_eq.mpr c134
              have c134b1 : ((rd [x473000_3, x473001_3, x473002_3, x473003_3] x18_3) != (rd [t466, t467, t468, t469] x18_3)) = false := bne_eq_false_iff_eq.mpr c134
              clear c134
              have H' := za.mk H
              clear H
              have hnb135 := NB453_454.out
              have hnc135 := NB454_453.out
              have hnb136 := NB453_465.out
              have hnc136 := NB465_453.out
              have hnb137 := NB453_471.out
              have hnc137 := NB471_453.out
              have hnb138 := NB453_472.out
              have hnc138 := NB472_453.out
              obtain ⟨hcz139_0, hcz139_1, hcz139_2⟩ := xc3 BK453
              obtain ⟨hfz139_0, hfz139_1, hfz139_2⟩ := xf3 BK453
              go_wp2_with (first | ((with_reducible refine zn (N := 98) rfl ?_); refine Kd.R_lit (Kd.int .u8) _ 5 ?hg (N := 98) ?hd (xs := ([(x18_3) % 256] : List Int)) (inner := [.int .u8 ((x18_3) % 256)]) (ok := fun _ => True) (okp := fun _ => True) ?hr ?hp (fun _ hk => hk) trivial (Below.refl _ _) (Nat.le_refl _) (by simp) ?_; (case hd => rfl); (case hg => rfl); (case hr => first | (go_simp; done) | (go_simp; rfl)); (case hp => exact (Reps.one (show Kd.M (Kd.int .u8) _ _ _ ((x18_3) % 256) [.int .u8 ((x18_3) % 256)] from rfl) (Reps.none _ _))); intro v474 w140 ho141 hb hg_ hnew_; clear hg_ hnew_; (first | rw [← Ny473.out] at ho141 | (simp only [Int.reduceToNat] at ho141; rw [← Ny473.out] at ho141)); have HO475 := za.mk (Kd.R_lower ho141 (zv sB)); replace HO_454002 := dR HO_454002 hb; replace BK453 := dK BK453 hb; replace BK454 := dK BK454 hb; replace BK465 := dK BK465 hb; replace BK471 := dK BK471 hb; replace BK472 := dK BK472 hb; replace HB := za.mk (ze sB hb); clear hb ho141) | ((with_reducible refine zga (b := .append) (xs := #[.tmp 98, .tmp 99]) rfl ?_); at_builtin; refine Kd.R_append_rows (Kd.int .u8) (w0 := w) w.heap.size rfl (.tmp 98) (.tmp 99) 22 5 (.int .u8 0) 1 rfl Try.underlying22 zcc rfl (by decide) (by omega) v474 y473 l1 _ _ _ (fun _ => True) (fun _ => False) rfl rfl ?aO ?aR (fun _ _ h => h) (fun _ h => h.elim) ?aF ?aB ?aS ?aL ?_; (case aR => exact uC HR1 HB); (case aB => exact sB); (case aF => exact (fun _ _ => trivial)); (case aO => exact (uR HO475)); (case aS => exact (zv sB)); (case aL => have := LMc64.out; omega); intro v477 w142 ho hb hg hat; rw [← Ny476.out] at ho; have HO478 := za.mk ho; replace HO_454002 := za.mk (Kd.R_over' (uR HO_454002) (Kd.R_typed (uR HO475)) (by decide) hg); replace BK453 := za.mk (zq (g := gb453) (o := .cells #[.int .i8 t448, .int .i8 t449, .slice Ao25 t450.length co25] 28 (0, 0)) (uK BK453) hg (Kd.R_ne HO475.out BK453.out (by decide))); replace BK454 := za.mk (zq (g := gb454) (o := .cells #[.int .i8 (IntKind.i8.wrap ((t450.length : Int))), .int .i8 t449, .bool true, .bool false] 50 (0, 0)) (uK BK454) hg (Kd.R_ne HO475.out BK454.out (by decide))); replace BK465 := za.mk (zq (g := gb465) (o := .cells #[.int .i8 ((zf t455 t463).f0), .bool ((zf t455 t463).f1)] 38 (0, 0)) (uK BK465) hg (Kd.R_ne HO475.out BK465.out (by decide))); replace BK471 := za.mk (zq (g := gb471) (o := .cells #[.int .i8 t466, .int .i8 t467, .int .i8 t468, .int .i8 t469] 43 (0, 0)) (uK BK471) hg (Kd.R_ne HO475.out BK471.out (by decide))); replace BK472 := za.mk (zq (g := gb472) (o := .cells #[.int .i8 x473000_3, .int .i8 x473001_3, .int .i8 x473002_3, .int .i8 x473003_3] 43 (0, 0)) (uK BK472) hg (Kd.R_ne HO475.out BK472.out (by decide))); replace HB := za.mk hb; clear HO475; clear ho hb hg hat; obtain ⟨Ao143, co143, eo143⟩ := Kd.R_slice HO478.out; subst eo143) | (go_at_call 7; (with_reducible refine (spec_P6Pick.calls _ _ y476 4 t479 _ ?side1 ?side2 A65.out).mono ?_); (case side1 => exact uQ HO478); (case side2 => exact (Kd.R_reads' HO478.out).2.1); rintro e w144 ⟨rfl, hb⟩; replace HO_454002 := dR HO_454002 hb; replace HO478 := dR HO478 hb; replace BK453 := dK BK453 hb; replace BK454 := dK BK454 hb; replace BK465 := dK BK465 hb; replace BK471 := dK BK471 hb; replace BK472 := dK BK472 hb; replace HB := za.mk (ze sB hb); try clear hb; have p145 : 0 ≤ (x18_3 : Int) := of_decide_eq_true (by first | (with_reducible assumption) | assumption); have q145 : x18_3 < (4 : Int) := of_decide_eq_true (by first | (with_reducible assumption) | assumption); replace p145 := eq_true p145; replace q145 := eq_true q145; have hnb146 := NB472_454.out; have hnc146 := NB454_472.out; have hnb147 := NB472_465.out; have hnc147 := NB465_472.out; have hnb148 := NB472_471.out; have hnc148 := NB471_472.out; obtain ⟨hcz149_0, hcz149_1, hcz149_2, hcz149_3⟩ := xc4 BK472; obtain ⟨hfz149_0, hfz149_1, hfz149_2, hfz149_3⟩ := xf4 BK472; have hx150_0 : w144.cell? ⟨gb472, (x18_3).toNat, none⟩ = some (.int .i8 (rd [x473000_3, x473001_3, x473002_3, x473003_3] x18_3)) := (zh BK472.out _).trans (by rcases (show (x18_3 : Int) = 0 ∨ (x18_3 : Int) = 1 ∨ (x18_3 : Int) = 2 ∨ (x18_3 : Int) = 3 by have hp_ : 0 ≤ (x18_3 : Int) := of_decide_eq_true (by first | (with_reducible assumption) | assumption); have hq_ : x18_3 < (4 : Int) := of_decide_eq_true (by first | (with_reducible assumption) | assumption); omega) with h_ | h_ | h_ | h_ <;> rw [h_] <;> rfl); have p151 : 0 ≤ (x18_3 : Int) := of_decide_eq_true (by first | (with_reducible assumption) | assumption); have q151 : x18_3 < (4 : Int) := of_decide_eq_true (by first | (with_reducible assumption) | assumption); replace p151 := eq_true p151; replace q151 := eq_true q151; have hnb152 := NB471_454.out; have hnc152 := NB454_471.out; have hnb153 := NB471_465.out; have hnc153 := NB465_471.out; obtain ⟨hcz154_0, hcz154_1, hcz154_2, hcz154_3⟩ := xc4 BK471; obtain ⟨hfz154_0, hfz154_1, hfz154_2, hfz154_3⟩ := xf4 BK471; have hx155_0 : w144.cell? ⟨gb471, (x18_3).toNat, none⟩ = some (.int .i8 (rd [t466, t467, t468, t469] x18_3)) := (zh BK471.out _).trans (by rcases (show (x18_3 : Int) = 0 ∨ (x18_3 : Int) = 1 ∨ (x18_3 : Int) = 2 ∨ (x18_3 : Int) = 3 by have hp_ : 0 ≤ (x18_3 : Int) := of_decide_eq_true (by first | (with_reducible assumption) | assumption); have hq_ : x18_3 < (4 : Int) := of_decide_eq_true (by first | (with_reducible assumption) | assumption); omega) with h_ | h_ | h_ | h_ <;> rw [h_] <;> rfl)))
              repeat (go_quiet (fail); try go_wp2_with (first | ((with_reducible refine zn (N := 98) rfl ?_); refine Kd.R_lit (Kd.int .u8) _ 5 ?hg (N := 98) ?hd (xs := ([(x18_3) % 256] : List Int)) (inner := [.int .u8 ((x18_3) % 256)]) (ok := fun _ => True) (okp := fun _ => True) ?hr ?hp (fun _ hk => hk) trivial (Below.refl _ _) (Nat.le_refl _) (by simp) ?_; (case hd => rfl); (case hg => rfl); (case hr => first | (go_simp; done) | (go_simp; rfl)); (case hp => exact (Reps.one (show Kd.M (Kd.int .u8) _ _ _ ((x18_3) % 256) [.int .u8 ((x18_3) % 256)] from rfl) (Reps.none _ _))); intro v474 w140 ho141 hb hg_ hnew_; clear hg_ hnew_; (first | rw [← Ny473.out] at ho141 | (simp only [Int.reduceToNat] at ho141; rw [← Ny473.out] at ho141)); have HO475 := za.mk (Kd.R_lower ho141 (zv sB)); replace HO_454002 := dR HO_454002 hb; replace BK453 := dK BK453 hb; replace BK454 := dK BK454 hb; replace BK465 := dK BK465 hb; replace BK471 := dK BK471 hb; replace BK472 := dK BK472 hb; replace HB := za.mk (ze sB hb); clear hb ho141) | ((with_reducible refine zga (b := .append) (xs := #[.tmp 98, .tmp 99]) rfl ?_); at_builtin; refine Kd.R_append_rows (Kd.int .u8) (w0 := w) w.heap.size rfl (.tmp 98) (.tmp 99) 22 5 (.int .u8 0) 1 rfl Try.underlying22 zcc rfl (by decide) (by omega) v474 y473 l1 _ _ _ (fun _ => True) (fun _ => False) rfl rfl ?aO ?aR (fun _ _ h => h) (fun _ h => h.elim) ?aF ?aB ?aS ?aL ?_; (case aR => exact uC HR1 HB); (case aB => exact sB); (case aF => exact (fun _ _ => trivial)); (case aO => exact (uR HO475)); (case aS => exact (zv sB)); (case aL => have := LMc64.out; omega); intro v477 w142 ho hb hg hat; rw [← Ny476.out] at ho; have HO478 := za.mk ho; replace HO_454002 := za.mk (Kd.R_over' (uR HO_454002) (Kd.R_typed (uR HO475)) (by decide) hg); replace BK453 := za.mk (zq (g := gb453) (o := .cells #[.int .i8 t448, .int .i8 t449, .slice Ao25 t450.length co25] 28 (0, 0)) (uK BK453) hg (Kd.R_ne HO475.out BK453.out (by decide))); replace BK454 := za.mk (zq (g := gb454) (o := .cells #[.int .i8 (IntKind.i8.wrap ((t450.length : Int))), .int .i8 t449, .bool true, .bool false] 50 (0, 0)) (uK BK454) hg (Kd.R_ne HO475.out BK454.out (by decide))); replace BK465 := za.mk (zq (g := gb465) (o := .cells #[.int .i8 ((zf t455 t463).f0), .bool ((zf t455 t463).f1)] 38 (0, 0)) (uK BK465) hg (Kd.R_ne HO475.out BK465.out (by decide))); replace BK471 := za.mk (zq (g := gb471) (o := .cells #[.int .i8 t466, .int .i8 t467, .int .i8 t468, .int .i8 t469] 43 (0, 0)) (uK BK471) hg (Kd.R_ne HO475.out BK471.out (by decide))); replace BK472 := za.mk (zq (g := gb472) (o := .cells #[.int .i8 x473000_3, .int .i8 x473001_3, .int .i8 x473002_3, .int .i8 x473003_3] 43 (0, 0)) (uK BK472) hg (Kd.R_ne HO475.out BK472.out (by decide))); replace HB := za.mk hb; clear HO475; clear ho hb hg hat; obtain ⟨Ao143, co143, eo143⟩ := Kd.R_slice HO478.out; subst eo143) | (go_at_call 7; (with_reducible refine (spec_P6Pick.calls _ _ y476 4 t479 _ ?side1 ?side2 A65.out).mono ?_); (case side1 => exact uQ HO478); (case side2 => exact (Kd.R_reads' HO478.out).2.1); rintro e w144 ⟨rfl, hb⟩; replace HO_454002 := dR HO_454002 hb; replace HO478 := dR HO478 hb; replace BK453 := dK BK453 hb; replace BK454 := dK BK454 hb; replace BK465 := dK BK465 hb; replace BK471 := dK BK471 hb; replace BK472 := dK BK472 hb; replace HB := za.mk (ze sB hb); try clear hb; have p145 : 0 ≤ (x18_3 : Int) := of_decide_eq_true (by first | (with_reducible assumption) | assumption); have q145 : x18_3 < (4 : Int) := of_decide_eq_true (by first | (with_reducible assumption) | assumption); replace p145 := eq_true p145; replace q145 := eq_true q145; have hnb146 := NB472_454.out; have hnc146 := NB454_472.out; have hnb147 := NB472_465.out; have hnc147 := NB465_472.out; have hnb148 := NB472_471.out; have hnc148 := NB471_472.out; obtain ⟨hcz149_0, hcz149_1, hcz149_2, hcz149_3⟩ := xc4 BK472; obtain ⟨hfz149_0, hfz149_1, hfz149_2, hfz149_3⟩ := xf4 BK472; have hx150_0 : w144.cell? ⟨gb472, (x18_3).toNat, none⟩ = some (.int .i8 (rd [x473000_3, x473001_3, x473002_3, x473003_3] x18_3)) := (zh BK472.out _).trans (by rcases (show (x18_3 : Int) = 0 ∨ (x18_3 : Int) = 1 ∨ (x18_3 : Int) = 2 ∨ (x18_3 : Int) = 3 by have hp_ : 0 ≤ (x18_3 : Int) := of_decide_eq_true (by first | (with_reducible assumption) | assumption); have hq_ : x18_3 < (4 : Int) := of_decide_eq_true (by first | (with_reducible assumption) | assumption); omega) with h_ | h_ | h_ | h_ <;> rw [h_] <;> rfl); have p151 : 0 ≤ (x18_3 : Int) := of_decide_eq_true (by first | (with_reducible assumption) | assumption); have q151 : x18_3 < (4 : Int) := of_decide_eq_true (by first | (with_reducible assumption) | assumption); replace p151 := eq_true p151; replace q151 := eq_true q151; have hnb152 := NB471_454.out; have hnc152 := NB454_471.out; have hnb153 := NB471_465.out; have hnc153 := NB465_471.out; obtain ⟨hcz154_0, hcz154_1, hcz154_2, hcz154_3⟩ := xc4 BK471; obtain ⟨hfz154_0, hfz154_1, hfz154_2, hfz154_3⟩ := xf4 BK471; have hx155_0 : w144.cell? ⟨gb471, (x18_3).toNat, none⟩ = some (.int .i8 (rd [t466, t467, t468, t469] x18_3)) := (zh BK471.out _).trans (by rcases (show (x18_3 : Int) = 0 ∨ (x18_3 : Int) = 1 ∨ (x18_3 : Int) = 2 ∨ (x18_3 : Int) = 3 by have hp_ : 0 ≤ (x18_3 : Int) := of_decide_eq_true (by first | (with_reducible assumption) | assumption); have hq_ : x18_3 < (4 : Int) := of_decide_eq_true (by first | (with_reducible assumption) | assumption); omega) with h_ | h_ | h_ | h_ <;> rw [h_] <;> rfl))))
              go_roundg k3
              case measure => have := HJ2.out; have := HJ20.out; have := HK3.out; omega
              case rel => exact ⟨(x17_3), (wrap64 (x18_3 + 1)), (x473000_3), (x473001_3), (x473002_3), (x473003_3), (by first | rfl | (simp; done) | (simp [*]; done)), (by first | rfl | (simp; done) | (simp [*]; done)), H', ⟨by have := HJ2.out; have := HJ20.out; have := HK3.out; omega⟩, ⟨uR HO_454002⟩, ⟨uK BK453⟩, ⟨uK BK454⟩, ⟨uK BK465⟩, ⟨uK BK471⟩, ⟨uK BK472⟩, ⟨sB⟩⟩
             rw [if_neg c134] at H
             have c134b0 : ((rd [x473000_3, x473001_3, x473002_3, x473003_3] x18_3) == (rd [t466, t467, t468, t469] x18_3)) = false := beq_eq_false_iff_ne.mpr c134
             have c134b1 : ((rd [x473000_3, x473001_3, x473002_3, x473003_3] x18_3) != (rd [t466, t467, t468, t469] x18_3)) = true := bne_iff_ne.mpr c134
             have H' := za.mk H
             clear H
             have hnb156 := NB453_454.out
             have hnc156 := NB454_453.out
             have hnb157 := NB453_465.out
             have hnc157 := NB465_453.out
             have hnb158 := NB453_471.out
             have hnc158 := NB471_453.out
             have hnb159 := NB453_472.out
             have hnc159 := NB472_453.out
             obtain ⟨hcz160_0, hcz160_1, hcz160_2⟩ := xc3 BK453
             obtain ⟨hfz160_0, hfz160_1, hfz160_2⟩ := xf3 BK453
             go_wp2_with (first | ((with_reducible refine zn (N := 98) rfl ?_); refine Kd.R_lit (Kd.int .u8) _ 5 ?hg (N := 98) ?hd (xs := ([(x18_3) % 256] : List Int)) (inner := [.int .u8 ((x18_3) % 256)]) (ok := fun _ => True) (okp := fun _ => True) ?hr ?hp (fun _ hk => hk) trivial (Below.refl _ _) (Nat.le_refl _) (by simp) ?_; (case hd => rfl); (case hg => rfl); (case hr => first | (go_simp; done) | (go_simp; rfl)); (case hp => exact (Reps.one (show Kd.M (Kd.int .u8) _ _ _ ((x18_3) % 256) [.int .u8 ((x18_3) % 256)] from rfl) (Reps.none _ _))); intro v474 w161 ho162 hb hg_ hnew_; clear hg_ hnew_; (first | rw [← Ny473.out] at ho162 | (simp only [Int.reduceToNat] at ho162; rw [← Ny473.out] at ho162)); have HO475 := za.mk (Kd.R_lower ho162 (zv sB)); replace HO_454002 := dR HO_454002 hb; replace BK453 := dK BK453 hb; replace BK454 := dK BK454 hb; replace BK465 := dK BK465 hb; replace BK471 := dK BK471 hb; replace BK472 := dK BK472 hb; replace HB := za.mk (ze sB hb); clear hb ho162) | ((with_reducible refine zga (b := .append) (xs := #[.tmp 98, .tmp 99]) rfl ?_); at_builtin; refine Kd.R_append_rows (Kd.int .u8) (w0 := w) w.heap.size rfl (.tmp 98) (.tmp 99) 22 5 (.int .u8 0) 1 rfl Try.underlying22 zcc rfl (by decide) (by omega) v474 y473 l1 _ _ _ (fun _ => True) (fun _ => False) rfl rfl ?aO ?aR (fun _ _ h => h) (fun _ h => h.elim) ?aF ?aB ?aS ?aL ?_; (case aR => exact uC HR1 HB); (case aB => exact sB); (case aF => exact (fun _ _ => trivial)); (case aO => exact (uR HO475)); (case aS => exact (zv sB)); (case aL => have := LMc64.out; omega); intro v477 w163 ho hb hg hat; rw [← Ny476.out] at ho; have HO478 := za.mk ho; replace HO_454002 := za.mk (Kd.R_over' (uR HO_454002) (Kd.R_typed (uR HO475)) (by decide) hg); replace BK453 := za.mk (zq (g := gb453) (o := .cells #[.int .i8 t448, .int .i8 t449, .slice Ao25 t450.length co25] 28 (0, 0)) (uK BK453) hg (Kd.R_ne HO475.out BK453.out (by decide))); replace BK454 := za.mk (zq (g := gb454) (o := .cells #[.int .i8 (IntKind.i8.wrap ((t450.length : Int))), .int .i8 t449, .bool true, .bool false] 50 (0, 0)) (uK BK454) hg (Kd.R_ne HO475.out BK454.out (by decide))); replace BK465 := za.mk (zq (g := gb465) (o := .cells #[.int .i8 ((zf t455 t463).f0), .bool ((zf t455 t463).f1)] 38 (0, 0)) (uK BK465) hg (Kd.R_ne HO475.out BK465.out (by decide))); replace BK471 := za.mk (zq (g := gb471) (o := .cells #[.int .i8 t466, .int .i8 t467, .int .i8 t468, .int .i8 t469] 43 (0, 0)) (uK BK471) hg (Kd.R_ne HO475.out BK471.out (by decide))); replace BK472 := za.mk (zq (g := gb472) (o := .cells #[.int .i8 x473000_3, .int .i8 x473001_3, .int .i8 x473002_3, .int .i8 x473003_3] 43 (0, 0)) (uK BK472) hg (Kd.R_ne HO475.out BK472.out (by decide))); replace HB := za.mk hb; clear HO475; clear ho hb hg hat; obtain ⟨Ao164, co164, eo164⟩ := Kd.R_slice HO478.out; subst eo164) | (go_at_call 7; (with_reducible refine (spec_P6Pick.calls _ _ y476 4 t479 _ ?side1 ?side2 A65.out).mono ?_); (case side1 => exact uQ HO478); (case side2 => exact (Kd.R_reads' HO478.out).2.1); rintro e w165 ⟨rfl, hb⟩; replace HO_454002 := dR HO_454002 hb; replace HO478 := dR HO478 hb; replace BK453 := dK BK453 hb; replace BK454 := dK BK454 hb; replace BK465 := dK BK465 hb; replace BK471 := dK BK471 hb; replace BK472 := dK BK472 hb; replace HB := za.mk (ze sB hb); try clear hb; have p166 : 0 ≤ (x18_3 : Int) := of_decide_eq_true (by first | (with_reducible assumption) | assumption); have q166 : x18_3 < (4 : Int) := of_decide_eq_true (by first | (with_reducible assumption) | assumption); replace p166 := eq_true p166; replace q166 := eq_true q166; have hnb167 := NB472_454.out; have hnc167 := NB454_472.out; have hnb168 := NB472_465.out; have hnc168 := NB465_472.out; have hnb169 := NB472_471.out; have hnc169 := NB471_472.out; obtain ⟨hcz170_0, hcz170_1, hcz170_2, hcz170_3⟩ := xc4 BK472; obtain ⟨hfz170_0, hfz170_1, hfz170_2, hfz170_3⟩ := xf4 BK472; have hx171_0 : w165.cell? ⟨gb472, (x18_3).toNat, none⟩ = some (.int .i8 (rd [x473000_3, x473001_3, x473002_3, x473003_3] x18_3)) := (zh BK472.out _).trans (by rcases (show (x18_3 : Int) = 0 ∨ (x18_3 : Int) = 1 ∨ (x18_3 : Int) = 2 ∨ (x18_3 : Int) = 3 by have hp_ : 0 ≤ (x18_3 : Int) := of_decide_eq_true (by first | (with_reducible assumption) | assumption); have hq_ : x18_3 < (4 : Int) := of_decide_eq_true (by first | (with_reducible assumption) | assumption); omega) with h_ | h_ | h_ | h_ <;> rw [h_] <;> rfl); have p172 : 0 ≤ (x18_3 : Int) := of_decide_eq_true (by first | (with_reducible assumption) | assumption); have q172 : x18_3 < (4 : Int) := of_decide_eq_true (by first | (with_reducible assumption) | assumption); replace p172 := eq_true p172; replace q172 := eq_true q172; have hnb173 := NB471_454.out; have hnc173 := NB454_471.out; have hnb174 := NB471_465.out; have hnc174 := NB465_471.out; obtain ⟨hcz175_0, hcz175_1, hcz175_2, hcz175_3⟩ := xc4 BK471; obtain ⟨hfz175_0, hfz175_1, hfz175_2, hfz175_3⟩ := xf4 BK471; have hx176_0 : w165.cell? ⟨gb471, (x18_3).toNat, none⟩ = some (.int .i8 (rd [t466, t467, t468, t469] x18_3)) := (zh BK471.out _).trans (by rcases (show (x18_3 : Int) = 0 ∨ (x18_3 : Int) = 1 ∨ (x18_3 : Int) = 2 ∨ (x18_3 : Int) = 3 by have hp_ : 0 ≤ (x18_3 : Int) := of_decide_eq_true (by first | (with_reducible assumption) | assumption); have hq_ : x18_3 < (4 : Int) := of_decide_eq_true (by first | (with_reducible assumption) | assumption); omega) with h_ | h_ | h_ | h_ <;> rw [h_] <;> rfl)))
             repeat (go_quiet (fail); try go_wp2_with (first | ((with_reducible refine zn (N := 98) rfl ?_); refine Kd.R_lit (Kd.int .u8) _ 5 ?hg (N := 98) ?hd (xs := ([(x18_3) % 256] : List Int)) (inner := [.int .u8 ((x18_3) % 256)]) (ok := fun _ => True) (okp := fun _ => True) ?hr ?hp (fun _ hk => hk) trivial (Below.refl _ _) (Nat.le_refl _) (by simp) ?_; (case hd => rfl); (case hg => rfl); (case hr => first | (go_simp; done) | (go_simp; rfl)); (case hp => exact (Reps.one (show Kd.M (Kd.int .u8) _ _ _ ((x18_3) % 256) [.int .u8 ((x18_3) % 256)] from rfl) (Reps.none _ _))); intro v474 w161 ho162 hb hg_ hnew_; clear hg_ hnew_; (first | rw [← Ny473.out] at ho162 | (simp only [Int.reduceToNat] at ho162; rw [← Ny473.out] at ho162)); have HO475 := za.mk (Kd.R_lower ho162 (zv sB)); replace HO_454002 := dR HO_454002 hb; replace BK453 := dK BK453 hb; replace BK454 := dK BK454 hb; replace BK465 := dK BK465 hb; replace BK471 := dK BK471 hb; replace BK472 := dK BK472 hb; replace HB := za.mk (ze sB hb); clear hb ho162) | ((with_reducible refine zga (b := .append) (xs := #[.tmp 98, .tmp 99]) rfl ?_); at_builtin; refine Kd.R_append_rows (Kd.int .u8) (w0 := w) w.heap.size rfl (.tmp 98) (.tmp 99) 22 5 (.int .u8 0) 1 rfl Try.underlying22 zcc rfl (by decide) (by omega) v474 y473 l1 _ _ _ (fun _ => True) (fun _ => False) rfl rfl ?aO ?aR (fun _ _ h => h) (fun _ h => h.elim) ?aF ?aB ?aS ?aL ?_; (case aR => exact uC HR1 HB); (case aB => exact sB); (case aF => exact (fun _ _ => trivial)); (case aO => exact (uR HO475)); (case aS => exact (zv sB)); (case aL => have := LMc64.out; omega); intro v477 w163 ho hb hg hat; rw [← Ny476.out] at ho; have HO478 := za.mk ho; replace HO_454002 := za.mk (Kd.R_over' (uR HO_454002) (Kd.R_typed (uR HO475)) (by decide) hg); replace BK453 := za.mk (zq (g := gb453) (o := .cells #[.int .i8 t448, .int .i8 t449, .slice Ao25 t450.length co25] 28 (0, 0)) (uK BK453) hg (Kd.R_ne HO475.out BK453.out (by decide))); replace BK454 := za.mk (zq (g := gb454) (o := .cells #[.int .i8 (IntKind.i8.wrap ((t450.length : Int))), .int .i8 t449, .bool true, .bool false] 50 (0, 0)) (uK BK454) hg (Kd.R_ne HO475.out BK454.out (by decide))); replace BK465 := za.mk (zq (g := gb465) (o := .cells #[.int .i8 ((zf t455 t463).f0), .bool ((zf t455 t463).f1)] 38 (0, 0)) (uK BK465) hg (Kd.R_ne HO475.out BK465.out (by decide))); replace BK471 := za.mk (zq (g := gb471) (o := .cells #[.int .i8 t466, .int .i8 t467, .int .i8 t468, .int .i8 t469] 43 (0, 0)) (uK BK471) hg (Kd.R_ne HO475.out BK471.out (by decide))); replace BK472 := za.mk (zq (g := gb472) (o := .cells #[.int .i8 x473000_3, .int .i8 x473001_3, .int .i8 x473002_3, .int .i8 x473003_3] 43 (0, 0)) (uK BK472) hg (Kd.R_ne HO475.out BK472.out (by decide))); replace HB := za.mk hb; clear HO475; clear ho hb hg hat; obtain ⟨Ao164, co164, eo164⟩ := Kd.R_slice HO478.out; subst eo164) | (go_at_call 7; (with_reducible refine (spec_P6Pick.calls _ _ y476 4 t479 _ ?side1 ?side2 A65.out).mono ?_); (case side1 => exact uQ HO478); (case side2 => exact (Kd.R_reads' HO478.out).2.1); rintro e w165 ⟨rfl, hb⟩; replace HO_454002 := dR HO_454002 hb; replace HO478 := dR HO478 hb; replace BK453 := dK BK453 hb; replace BK454 := dK BK454 hb; replace BK465 := dK BK465 hb; replace BK471 := dK BK471 hb; replace BK472 := dK BK472 hb; replace HB := za.mk (ze sB hb); try clear hb; have p166 : 0 ≤ (x18_3 : Int) := of_decide_eq_true (by first | (with_reducible assumption) | assumption); have q166 : x18_3 < (4 : Int) := of_decide_eq_true (by first | (with_reducible assumption) | assumption); replace p166 := eq_true p166; replace q166 := eq_true q166; have hnb167 := NB472_454.out; have hnc167 := NB454_472.out; have hnb168 := NB472_465.out; have hnc168 := NB465_472.out; have hnb169 := NB472_471.out; have hnc169 := NB471_472.out; obtain ⟨hcz170_0, hcz170_1, hcz170_2, hcz170_3⟩ := xc4 BK472; obtain ⟨hfz170_0, hfz170_1, hfz170_2, hfz170_3⟩ := xf4 BK472; have hx171_0 : w165.cell? ⟨gb472, (x18_3).toNat, none⟩ = some (.int .i8 (rd [x473000_3, x473001_3, x473002_3, x473003_3] x18_3)) := (zh BK472.out _).trans (by rcases (show (x18_3 : Int) = 0 ∨ (x18_3 : Int) = 1 ∨ (x18_3 : Int) = 2 ∨ (x18_3 : Int) = 3 by have hp_ : 0 ≤ (x18_3 : Int) := of_decide_eq_true (by first | (with_reducible assumption) | assumption); have hq_ : x18_3 < (4 : Int) := of_decide_eq_true (by first | (with_reducible assumption) | assumption); omega) with h_ | h_ | h_ | h_ <;> rw [h_] <;> rfl); have p172 : 0 ≤ (x18_3 : Int) := of_decide_eq_true (by first | (with_reducible assumption) | assumption); have q172 : x18_3 < (4 : Int) := of_decide_eq_true (by first | (with_reducible assumption) | assumption); replace p172 := eq_true p172; replace q172 := eq_true q172; have hnb173 := NB471_454.out; have hnc173 := NB454_471.out; have hnb174 := NB471_465.out; have hnc174 := NB465_471.out; obtain ⟨hcz175_0, hcz175_1, hcz175_2, hcz175_3⟩ := xc4 BK471; obtain ⟨hfz175_0, hfz175_1, hfz175_2, hfz175_3⟩ := xf4 BK471; have hx176_0 : w165.cell? ⟨gb471, (x18_3).toNat, none⟩ = some (.int .i8 (rd [t466, t467, t468, t469] x18_3)) := (zh BK471.out _).trans (by rcases (show (x18_3 : Int) = 0 ∨ (x18_3 : Int) = 1 ∨ (x18_3 : Int) = 2 ∨ (x18_3 : Int) = 3 by have hp_ : 0 ≤ (x18_3 : Int) := of_decide_eq_true (by first | (with_reducible assumption) | assumption); have hq_ : x18_3 < (4 : Int) := of_decide_eq_true (by first | (with_reducible assumption) | assumption); omega) with h_ | h_ | h_ | h_ <;> rw [h_] <;> rfl))))
             go_roundg k3
             case measure => have := HJ2.out; have := HJ20.out; have := HK3.out; omega
             case rel => exact ⟨(wrap64 (x17_3 + 1)), (wrap64 (x18_3 + 1)), (x473000_3), (x473001_3), (x473002_3), (x473003_3), (by first | rfl | (simp; done) | (simp [*]; done)), (by first | rfl | (simp; done) | (simp [*]; done)), H', ⟨by have := HJ2.out; have := HJ20.out; have := HK3.out; omega⟩, ⟨uR HO_454002⟩, ⟨uK BK453⟩, ⟨uK BK454⟩, ⟨uK BK465⟩, ⟨uK BK471⟩, ⟨uK BK472⟩, ⟨sB⟩⟩
            rw [if_neg c133] at H
            exact absurd H (by simp)
           rw [if_neg c132] at H
           exact absurd H (by simp)
          rw [if_neg c64] at H
          exact absurd H (by simp)
         rw [if_neg c63] at H
         have c63b0 : decide (x18_3 < (wrap64 (t448))) = false := decide_eq_false c63
         (try (have c63b1 : decide (x18_3 < (IntKind.i64.wrap (t448))) = false := by have h_ : decide (x18_3 < (wrap64 (t448))) = false := decide_eq_false c63; simpa only [zda, zfa] using h_))
         clear c63
         replace H := Option.bind_eq_some_iff.mp H
         obtain ⟨⟨t497, t498, t499⟩, A1770, H⟩ := H
         replace H : ((spec_DecodeNear.f k3 t448 t449 t450 x473000_3 x473001_3 x473002_3 x473003_3 x17_3).bind fun bt501 => (if t470 = 0 then (if t499 = bt501.2.2 then (if (!(t497 == bt501.1) || (!(t498 == bt501.2.1))) = true then (laws_FnNear.j3 k3 t461 t499 true t448 t449 t450 ((zf t455 t463).f0) ((zf t455 t463).f1) t466 t467 t468 t469 bt501.1 bt501.2.1) else (if t499 = 6 then (laws_FnNear.j3 k3 t461 t499 true t448 t449 t450 ((zf t455 t463).f0) ((zf t455 t463).f1) t466 t467 t468 t469 bt501.1 bt501.2.1) else (if t461 > (wrap64 (2 * x17_3)) then (if t499 = 0 then (laws_FnNear.j3 k3 t461 t499 (!(bt501.1 == ((zf t455 t463).f0)) || (!(bt501.2.1 == ((zf t455 t463).f1)))) t448 t449 t450 ((zf t455 t463).f0) ((zf t455 t463).f1) t466 t467 t468 t469 bt501.1 bt501.2.1) else (laws_FnNear.j3 k3 t461 t499 true t448 t449 t450 ((zf t455 t463).f0) ((zf t455 t463).f1) t466 t467 t468 t469 bt501.1 bt501.2.1)) else (laws_FnNear.j3 k3 t461 t499 false t448 t449 t450 ((zf t455 t463).f0) ((zf t455 t463).f1) t466 t467 t468 t469 bt501.1 bt501.2.1)))) else (laws_FnNear.j3 k3 t461 t499 true t448 t449 t450 ((zf t455 t463).f0) ((zf t455 t463).f1) t466 t467 t468 t469 bt501.1 bt501.2.1)) else (laws_FnNear.j3 k3 t461 t499 true t448 t449 t450 ((zf t455 t463).f0) ((zf t455 t463).f1) t466 t467 t468 t469 bt501.1 bt501.2.1))) = some true := H
         have A177 := za.mk A1770
         clear A1770
         replace H := Option.bind_eq_some_iff.mp H
         obtain ⟨⟨t501, t502, t503⟩, A1780, H⟩ := H
         replace H : (if t470 = 0 then (if t499 = t503 then (if (!(t497 == t501) || (!(t498 == t502))) = true then (laws_FnNear.j3 k3 t461 t499 true t448 t449 t450 ((zf t455 t463).f0) ((zf t455 t463).f1) t466 t467 t468 t469 t501 t502) else (if t499 = 6 then (laws_FnNear.j3 k3 t461 t499 true t448 t449 t450 ((zf t455 t463).f0) ((zf t455 t463).f1) t466 t467 t468 t469 t501 t502) else (if t461 > (wrap64 (2 * x17_3)) then (if t499 = 0 then (laws_FnNear.j3 k3 t461 t499 (!(t501 == ((zf t455 t463).f0)) || (!(t502 == ((zf t455 t463).f1)))) t448 t449 t450 ((zf t455 t463).f0) ((zf t455 t463).f1) t466 t467 t468 t469 t501 t502) else (laws_FnNear.j3 k3 t461 t499 true t448 t449 t450 ((zf t455 t463).f0) ((zf t455 t463).f1) t466 t467 t468 t469 t501 t502)) else (laws_FnNear.j3 k3 t461 t499 false t448 t449 t450 ((zf t455 t463).f0) ((zf t455 t463).f1) t466 t467 t468 t469 t501 t502)))) else (laws_FnNear.j3 k3 t461 t499 true t448 t449 t450 ((zf t455 t463).f0) ((zf t455 t463).f1) t466 t467 t468 t469 t501 t502)) else (laws_FnNear.j3 k3 t461 t499 true t448 t449 t450 ((zf t455 t463).f0) ((zf t455 t463).f1) t466 t467 t468 t469 t501 t502)) = some true := H
         have A178 := za.mk A1780
         clear A1780
         have HC179 := za.mk H
         clear H
         have hnb180 := NB453_454.out
         have hnc180 := NB454_453.out
         have hnb181 := NB453_465.out
         have hnc181 := NB465_453.out
         have hnb182 := NB453_471.out
         have hnc182 := NB471_453.out
         have hnb183 := NB453_472.out
         have hnc183 := NB472_453.out
         obtain ⟨hcz184_0, hcz184_1, hcz184_2⟩ := xc3 BK453
         obtain ⟨hfz184_0, hfz184_1, hfz184_2⟩ := xf3 BK453
         have hnb185 := NB472_454.out
         have hnc185 := NB454_472.out
         have hnb186 := NB472_465.out
         have hnc186 := NB465_472.out
         have hnb187 := NB472_471.out
         have hnc187 := NB471_472.out
         obtain ⟨hcz188_0, hcz188_1, hcz188_2, hcz188_3⟩ := xc4 BK472
         obtain ⟨hfz188_0, hfz188_1, hfz188_2, hfz188_3⟩ := xf4 BK472
         go_upto_region 25 with (first | (go_at_call 30; (with_reducible refine (impl_DecodeNear.calls k3 t448 t449 _ _ t450 x473000_3 x473001_3 x473002_3 x473003_3 x17_3 t497 t498 t499 _ ?side1 ?side2 A177.out).mono ?_); (case side1 => exact uQ HO_454002); (case side2 => exact (Kd.R_reads' HO_454002.out).2.1); rintro e w189 ⟨rfl, hb⟩; replace HO_454002 := dR HO_454002 hb; replace BK453 := dK BK453 hb; replace BK454 := dK BK454 hb; replace BK465 := dK BK465 hb; replace BK471 := dK BK471 hb; replace BK472 := dK BK472 hb; replace HB := za.mk (ze sB hb); try clear hb) | ((with_reducible refine zn (N := 19) rfl ?_); refine bx (N := 19) #[.int .i8 0, .bool false] 38 rfl ?_; intro gb500 hg w190 hbox hb; have BK500 := za.mk hbox; have GW500 := gB hg; have GE500 := GW500; have NB453_500 := nK hg BK453; have NB500_453 := za.mk NB453_500.out.symm; have NB454_500 := nK hg BK454; have NB500_454 := za.mk NB454_500.out.symm; have NB465_500 := nK hg BK465; have NB500_465 := za.mk NB465_500.out.symm; have NB471_500 := nK hg BK471; have NB500_471 := za.mk NB471_500.out.symm; have NB472_500 := nK hg BK472; have NB500_472 := za.mk NB472_500.out.symm; replace HO_454002 := dR HO_454002 hb; replace BK453 := dK BK453 hb; replace BK454 := dK BK454 hb; replace BK465 := dK BK465 hb; replace BK471 := dK BK471 hb; replace BK472 := dK BK472 hb; replace HB := za.mk (ze sB hb); clear hb hbox hg; have hnb191 := NB500_453.out; have hnc191 := NB453_500.out; have hnb192 := NB500_454.out; have hnc192 := NB454_500.out; have hnb193 := NB500_465.out; have hnc193 := NB465_500.out; have hnb194 := NB500_471.out; have hnc194 := NB471_500.out; have hnb195 := NB500_472.out; have hnc195 := NB472_500.out; obtain ⟨hcz196_0, hcz196_1⟩ := xc2 BK500; obtain ⟨hfz196_0, hfz196_1⟩ := xf2 BK500; obtain ⟨hcz197_0, hcz197_1, hcz197_2⟩ := xc3 BK453; obtain ⟨hfz197_0, hfz197_1, hfz197_2⟩ := xf3 BK453; obtain ⟨hcz198_0, hcz198_1, hcz198_2, hcz198_3⟩ := xc4 BK472; obtain ⟨hfz198_0, hfz198_1, hfz198_2, hfz198_3⟩ := xf4 BK472) | (go_at_call 31; (with_reducible refine (spec_DecodeNear.calls k3 t448 t449 _ _ t450 x473000_3 x473001_3 x473002_3 x473003_3 x17_3 t501 t502 t503 _ ?side1 ?side2 A178.out).mono ?_); (case side1 => refine (Kd.R_reads' (e := 43) (base := w.heap.size) (ok := fun k_ => (k_ ≠ gb471 ∧ k_ ≠ gb472)) (n := t450.length) (c := co25) ?_).2.2; exact (uR' (Kd.R_mono (Kd.R_far (p := ⟨gb500, 1, none⟩) (Kd.R_far (p := ⟨gb500, 0, none⟩) (Kd.R_types HO_454002.out BK500.out (by decide)) (fun _ hk => hk.2) (.int .i8 t497)) (fun _ hk => hk.2) (.bool t498)) (fun _ h_ => h_.1)))); (case side2 => exact (Kd.R_reads' HO_454002.out).2.1); rintro e w199 ⟨rfl, hb⟩; have n0_ := za.mk (Kd.R_below (uR' (Kd.R_mono (Kd.R_far (p := ⟨gb500, 1, none⟩) (Kd.R_far (p := ⟨gb500, 0, none⟩) (Kd.R_types HO_454002.out BK500.out (by decide)) (fun _ hk => hk.2) (.int .i8 t497)) (fun _ hk => hk.2) (.bool t498)) (fun _ h_ => h_.1))) hb); have n1_ := za.mk (zr (g := gb453) (o := .cells #[.int .i8 t448, .int .i8 t449, .slice Ao25 t450.length co25] 28 (0, 0)) (by (with_reducible repeat (first | refine zc ?_ _ | refine zd ?_ | refine zb ?_ _)); refine zm ?_ NB453_500.out _; (with_reducible repeat (first | refine zc ?_ _ | refine zd ?_ | refine zb ?_ _)); refine zm ?_ NB453_500.out _; (with_reducible repeat (first | refine zc ?_ _ | refine zd ?_ | refine zb ?_ _)); exact BK453.out) hb); have n2_ := za.mk (zr (g := gb454) (o := .cells #[.int .i8 (IntKind.i8.wrap ((t450.length : Int))), .int .i8 t449, .bool true, .bool false] 50 (0, 0)) (by (with_reducible repeat (first | refine zc ?_ _ | refine zd ?_ | refine zb ?_ _)); refine zm ?_ NB454_500.out _; (with_reducible repeat (first | refine zc ?_ _ | refine zd ?_ | refine zb ?_ _)); refine zm ?_ NB454_500.out _; (with_reducible repeat (first | refine zc ?_ _ | refine zd ?_ | refine zb ?_ _)); exact BK454.out) hb); have n3_ := za.mk (zr (g := gb465) (o := .cells #[.int .i8 ((zf t455 t463).f0), .bool ((zf t455 t463).f1)] 38 (0, 0)) (by (with_reducible repeat (first | refine zc ?_ _ | refine zd ?_ | refine zb ?_ _)); refine zm ?_ NB465_500.out _; (with_reducible repeat (first | refine zc ?_ _ | refine zd ?_ | refine zb ?_ _)); refine zm ?_ NB465_500.out _; (with_reducible repeat (first | refine zc ?_ _ | refine zd ?_ | refine zb ?_ _)); exact BK465.out) hb); have n4_ := za.mk (zr (g := gb471) (o := .cells #[.int .i8 t466, .int .i8 t467, .int .i8 t468, .int .i8 t469] 43 (0, 0)) (by (with_reducible repeat (first | refine zc ?_ _ | refine zd ?_ | refine zb ?_ _)); refine zm ?_ NB471_500.out _; (with_reducible repeat (first | refine zc ?_ _ | refine zd ?_ | refine zb ?_ _)); refine zm ?_ NB471_500.out _; (with_reducible repeat (first | refine zc ?_ _ | refine zd ?_ | refine zb ?_ _)); exact BK471.out) hb); have n5_ := za.mk (zr (g := gb472) (o := .cells #[.int .i8 x473000_3, .int .i8 x473001_3, .int .i8 x473002_3, .int .i8 x473003_3] 43 (0, 0)) (by (with_reducible repeat (first | refine zc ?_ _ | refine zd ?_ | refine zb ?_ _)); refine zm ?_ NB472_500.out _; (with_reducible repeat (first | refine zc ?_ _ | refine zd ?_ | refine zb ?_ _)); refine zm ?_ NB472_500.out _; (with_reducible repeat (first | refine zc ?_ _ | refine zd ?_ | refine zb ?_ _)); exact BK472.out) hb); have n6_ := za.mk (zr (g := gb500) (o := .cells #[.int .i8 t497, .bool t498] 38 (0, 0)) (by (with_reducible repeat (first | refine zc ?_ _ | refine zd ?_ | refine zb ?_ _)); refine zl (cs := #[.int .i8 t497, .bool false]) ?_ 1 _ rfl; (with_reducible repeat (first | refine zc ?_ _ | refine zd ?_ | refine zb ?_ _)); refine zl (cs := #[.int .i8 0, .bool false]) ?_ 0 _ rfl; (with_reducible repeat (first | refine zc ?_ _ | refine zd ?_ | refine zb ?_ _)); exact BK500.out) hb); have n7_ := za.mk (ze sB hb); clear HO_454002; clear BK453; clear BK454; clear BK465; clear BK471; clear BK472; clear BK500; clear HB; have HO_454002 := n0_; have BK453 := n1_; have BK454 := n2_; have BK465 := n3_; have BK471 := n4_; have BK472 := n5_; have BK500 := n6_; have HB := n7_; clear n0_ n1_ n2_ n3_ n4_ n5_ n6_ n7_; try clear hb) | ((with_reducible refine zn (N := 21) rfl ?_); refine bx (N := 21) #[.int .i8 0, .bool false] 38 rfl ?_; intro gb504 hg w200 hbox hb; have BK504 := za.mk hbox; have GW504 := gB hg; have GE504 := GW504; have NB453_504 := nK hg BK453; have NB504_453 := za.mk NB453_504.out.symm; have NB454_504 := nK hg BK454; have NB504_454 := za.mk NB454_504.out.symm; have NB465_504 := nK hg BK465; have NB504_465 := za.mk NB465_504.out.symm; have NB471_504 := nK hg BK471; have NB504_471 := za.mk NB471_504.out.symm; have NB472_504 := nK hg BK472; have NB504_472 := za.mk NB472_504.out.symm; have NB500_504 := nK hg BK500; have NB504_500 := za.mk NB500_504.out.symm; replace HO_454002 := dR HO_454002 hb; replace BK453 := dK BK453 hb; replace BK454 := dK BK454 hb; replace BK465 := dK BK465 hb; replace BK471 := dK BK471 hb; replace BK472 := dK BK472 hb; replace BK500 := dK BK500 hb; replace HB := za.mk (ze sB hb); clear hb hbox hg; have hnb201 := NB504_453.out; have hnc201 := NB453_504.out; have hnb202 := NB504_454.out; have hnc202 := NB454_504.out; have hnb203 := NB504_465.out; have hnc203 := NB465_504.out; have hnb204 := NB504_471.out; have hnc204 := NB471_504.out; have hnb205 := NB504_472.out; have hnc205 := NB472_504.out; have hnb206 := NB504_500.out; have hnc206 := NB500_504.out; obtain ⟨hcz207_0, hcz207_1⟩ := xc2 BK504; obtain ⟨hfz207_0, hfz207_1⟩ := xf2 BK504))
         repeat (go_quiet (fail); go_upto_region 25 with (first | (go_at_call 30; (with_reducible refine (impl_DecodeNear.calls k3 t448 t449 _ _ t450 x473000_3 x473001_3 x473002_3 x473003_3 x17_3 t497 t498 t499 _ ?side1 ?side2 A177.out).mono ?_); (case side1 => exact uQ HO_454002); (case side2 => exact (Kd.R_reads' HO_454002.out).2.1); rintro e w189 ⟨rfl, hb⟩; replace HO_454002 := dR HO_454002 hb; replace BK453 := dK BK453 hb; replace BK454 := dK BK454 hb; replace BK465 := dK BK465 hb; replace BK471 := dK BK471 hb; replace BK472 := dK BK472 hb; replace HB := za.mk (ze sB hb); try clear hb) | ((with_reducible refine zn (N := 19) rfl ?_); refine bx (N := 19) #[.int .i8 0, .bool false] 38 rfl ?_; intro gb500 hg w190 hbox hb; have BK500 := za.mk hbox; have GW500 := gB hg; have GE500 := GW500; have NB453_500 := nK hg BK453; have NB500_453 := za.mk NB453_500.out.symm; have NB454_500 := nK hg BK454; have NB500_454 := za.mk NB454_500.out.symm; have NB465_500 := nK hg BK465; have NB500_465 := za.mk NB465_500.out.symm; have NB471_500 := nK hg BK471; have NB500_471 := za.mk NB471_500.out.symm; have NB472_500 := nK hg BK472; have NB500_472 := za.mk NB472_500.out.symm; replace HO_454002 := dR HO_454002 hb; replace BK453 := dK BK453 hb; replace BK454 := dK BK454 hb; replace BK465 := dK BK465 hb; replace BK471 := dK BK471 hb; replace BK472 := dK BK472 hb; replace HB := za.mk (ze sB hb); clear hb hbox hg; have hnb191 := NB500_453.out; have hnc191 := NB453_500.out; have hnb192 := NB500_454.out; have hnc192 := NB454_500.out; have hnb193 := NB500_465.out; have hnc193 := NB465_500.out; have hnb194 := NB500_471.out; have hnc194 := NB471_500.out; have hnb195 := NB500_472.out; have hnc195 := NB472_500.out; obtain ⟨hcz196_0, hcz196_1⟩ := xc2 BK500; obtain ⟨hfz196_0, hfz196_1⟩ := xf2 BK500; obtain ⟨hcz197_0, hcz197_1, hcz197_2⟩ := xc3 BK453; obtain ⟨hfz197_0, hfz197_1, hfz197_2⟩ := xf3 BK453; obtain ⟨hcz198_0, hcz198_1, hcz198_2, hcz198_3⟩ := xc4 BK472; obtain ⟨hfz198_0, hfz198_1, hfz198_2, hfz198_3⟩ := xf4 BK472) | (go_at_call 31; (with_reducible refine (spec_DecodeNear.calls k3 t448 t449 _ _ t450 x473000_3 x473001_3 x473002_3 x473003_3 x17_3 t501 t502 t503 _ ?side1 ?side2 A178.out).mono ?_); (case side1 => refine (Kd.R_reads' (e := 43) (base := w.heap.size) (ok := fun k_ => (k_ ≠ gb471 ∧ k_ ≠ gb472)) (n := t450.length) (c := co25) ?_).2.2; exact (uR' (Kd.R_mono (Kd.R_far (p := ⟨gb500, 1, none⟩) (Kd.R_far (p := ⟨gb500, 0, none⟩) (Kd.R_types HO_454002.out BK500.out (by decide)) (fun _ hk => hk.2) (.int .i8 t497)) (fun _ hk => hk.2) (.bool t498)) (fun _ h_ => h_.1)))); (case side2 => exact (Kd.R_reads' HO_454002.out).2.1); rintro e w199 ⟨rfl, hb⟩; have n0_ := za.mk (Kd.R_below (uR' (Kd.R_mono (Kd.R_far (p := ⟨gb500, 1, none⟩) (Kd.R_far (p := ⟨gb500, 0, none⟩) (Kd.R_types HO_454002.out BK500.out (by decide)) (fun _ hk => hk.2) (.int .i8 t497)) (fun _ hk => hk.2) (.bool t498)) (fun _ h_ => h_.1))) hb); have n1_ := za.mk (zr (g := gb453) (o := .cells #[.int .i8 t448, .int .i8 t449, .slice Ao25 t450.length co25] 28 (0, 0)) (by (with_reducible repeat (first | refine zc ?_ _ | refine zd ?_ | refine zb ?_ _)); refine zm ?_ NB453_500.out _; (with_reducible repeat (first | refine zc ?_ _ | refine zd ?_ | refine zb ?_ _)); refine zm ?_ NB453_500.out _; (with_reducible repeat (first | refine zc ?_ _ | refine zd ?_ | refine zb ?_ _)); exact BK453.out) hb); have n2_ := za.mk (zr (g := gb454) (o := .cells #[.int .i8 (IntKind.i8.wrap ((t450.length : Int))), .int .i8 t449, .bool true, .bool false] 50 (0, 0)) (by (with_reducible repeat (first | refine zc ?_ _ | refine zd ?_ | refine zb ?_ _)); refine zm ?_ NB454_500.out _; (with_reducible repeat (first | refine zc ?_ _ | refine zd ?_ | refine zb ?_ _)); refine zm ?_ NB454_500.out _; (with_reducible repeat (first | refine zc ?_ _ | refine zd ?_ | refine zb ?_ _)); exact BK454.out) hb); have n3_ := za.mk (zr (g := gb465) (o := .cells #[.int .i8 ((zf t455 t463).f0), .bool ((zf t455 t463).f1)] 38 (0, 0)) (by (with_reducible repeat (first | refine zc ?_ _ | refine zd ?_ | refine zb ?_ _)); refine zm ?_ NB465_500.out _; (with_reducible repeat (first | refine zc ?_ _ | refine zd ?_ | refine zb ?_ _)); refine zm ?_ NB465_500.out _; (with_reducible repeat (first | refine zc ?_ _ | refine zd ?_ | refine zb ?_ _)); exact BK465.out) hb); have n4_ := za.mk (zr (g := gb471) (o := .cells #[.int .i8 t466, .int .i8 t467, .int .i8 t468, .int .i8 t469] 43 (0, 0)) (by (with_reducible repeat (first | refine zc ?_ _ | refine zd ?_ | refine zb ?_ _)); refine zm ?_ NB471_500.out _; (with_reducible repeat (first | refine zc ?_ _ | refine zd ?_ | refine zb ?_ _)); refine zm ?_ NB471_500.out _; (with_reducible repeat (first | refine zc ?_ _ | refine zd ?_ | refine zb ?_ _)); exact BK471.out) hb); have n5_ := za.mk (zr (g := gb472) (o := .cells #[.int .i8 x473000_3, .int .i8 x473001_3, .int .i8 x473002_3, .int .i8 x473003_3] 43 (0, 0)) (by (with_reducible repeat (first | refine zc ?_ _ | refine zd ?_ | refine zb ?_ _)); refine zm ?_ NB472_500.out _; (with_reducible repeat (first | refine zc ?_ _ | refine zd ?_ | refine zb ?_ _)); refine zm ?_ NB472_500.out _; (with_reducible repeat (first | refine zc ?_ _ | refine zd ?_ | refine zb ?_ _)); exact BK472.out) hb); have n6_ := za.mk (zr (g := gb500) (o := .cells #[.int .i8 t497, .bool t498] 38 (0, 0)) (by (with_reducible repeat (first | refine zc ?_ _ | refine zd ?_ | refine zb ?_ _)); refine zl (cs := #[.int .i8 t497, .bool false]) ?_ 1 _ rfl; (with_reducible repeat (first | refine zc ?_ _ | refine zd ?_ | refine zb ?_ _)); refine zl (cs := #[.int .i8 0, .bool false]) ?_ 0 _ rfl; (with_reducible repeat (first | refine zc ?_ _ | refine zd ?_ | refine zb ?_ _)); exact BK500.out) hb); have n7_ := za.mk (ze sB hb); clear HO_454002; clear BK453; clear BK454; clear BK465; clear BK471; clear BK472; clear BK500; clear HB; have HO_454002 := n0_; have BK453 := n1_; have BK454 := n2_; have BK465 := n3_; have BK471 := n4_; have BK472 := n5_; have BK500 := n6_; have HB := n7_; clear n0_ n1_ n2_ n3_ n4_ n5_ n6_ n7_; try clear hb) | ((with_reducible refine zn (N := 21) rfl ?_); refine bx (N := 21) #[.int .i8 0, .bool false] 38 rfl ?_; intro gb504 hg w200 hbox hb; have BK504 := za.mk hbox; have GW504 := gB hg; have GE504 := GW504; have NB453_504 := nK hg BK453; have NB504_453 := za.mk NB453_504.out.symm; have NB454_504 := nK hg BK454; have NB504_454 := za.mk NB454_504.out.symm; have NB465_504 := nK hg BK465; have NB504_465 := za.mk NB465_504.out.symm; have NB471_504 := nK hg BK471; have NB504_471 := za.mk NB471_504.out.symm; have NB472_504 := nK hg BK472; have NB504_472 := za.mk NB472_504.out.symm; have NB500_504 := nK hg BK500; have NB504_500 := za.mk NB500_504.out.symm; replace HO_454002 := dR HO_454002 hb; replace BK453 := dK BK453 hb; replace BK454 := dK BK454 hb; replace BK465 := dK BK465 hb; replace BK471 := dK BK471 hb; replace BK472 := dK BK472 hb; replace BK500 := dK BK500 hb; replace HB := za.mk (ze sB hb); clear hb hbox hg; have hnb201 := NB504_453.out; have hnc201 := NB453_504.out; have hnb202 := NB504_454.out; have hnc202 := NB454_504.out; have hnb203 := NB504_465.out; have hnc203 := NB465_504.out; have hnb204 := NB504_471.out; have hnc204 := NB471_504.out; have hnb205 := NB504_472.out; have hnc205 := NB472_504.out; have hnb206 := NB504_500.out; have hnc206 := NB500_504.out; obtain ⟨hcz207_0, hcz207_1⟩ := xc2 BK504; obtain ⟨hfz207_0, hfz207_1⟩ := xf2 BK504)))
         (try simp only [Act.put, List.setIfInBounds_toArray, List.set_cons_zero, List.set_cons_succ])
         go_cut [167] (fun v167 wc => ∃ (kq : Nat) (x167_178 : Bool), v167 = .bool x167_178 ∧ za (laws_FnNear.j3 kq t461 t499 x167_178 t448 t449 t450 ((zf t455 t463).f0) ((zf t455 t463).f1) t466 t467 t468 t469 t501 t502 = some true) ∧ za (kq ≤ k3) ∧ za (Kd.R k43 43 wc w.heap.size (fun k_ => k_ ≠ gb471 ∧ k_ ≠ gb472) (.slice Ao25 t450.length co25) t450) ∧ za (wc.heap[gb453]? = some (.cells #[.int .i8 t448, .int .i8 t449, (.slice Ao25 t450.length co25)] 28 (0, 0))) ∧ za (wc.heap[gb454]? = some (.cells #[.int .i8 (IntKind.i8.wrap ((t450.length : Int))), .int .i8 t449, .bool true, .bool false] 50 (0, 0))) ∧ za (wc.heap[gb465]? = some (.cells #[.int .i8 ((zf t455 t463).f0), .bool ((zf t455 t463).f1)] 38 (0, 0))) ∧ za (wc.heap[gb471]? = some (.cells #[.int .i8 t466, .int .i8 t467, .int .i8 t468, .int .i8 t469] 43 (0, 0))) ∧ za (wc.heap[gb472]? = some (.cells #[.int .i8 x473000_3, .int .i8 x473001_3, .int .i8 x473002_3, .int .i8 x473003_3] 43 (0, 0))) ∧ za (wc.heap[gb500]? = some (.cells #[.int .i8 t497, .bool t498] 38 (0, 0))) ∧ za (wc.heap[gb504]? = some (.cells #[.int .i8 t501, .bool t502] 38 (0, 0))) ∧ za (Below w.heap.size w wc))
         case first =>
          have H := HC179.out
          clear HC179
          by_cases c208 : t470 = 0
          ·rw [if_pos c208] at H
           have c208b0 : (t470 == 0) = true := beq_iff_eq.mpr c208
           have c208b1 : (t470 != 0) = false := bne_eq_false_iff_eq.mpr c208
           clear c208
           (first | rw [c208b0] | (simp only [zda, zfa]; rw [c208b0]) | skip)
           by_cases c209 : t499 = t503
           ·rw [if_pos c209] at H
            have c209b0 : (t499 == t503) = true := beq_iff_eq.mpr c209
            have c209b1 : (t499 != t503) = false := bne_eq_false_iff_eq.mpr c209
            clear c209
            by_cases c210 : (!(t497 == t501) || (!(t498 == t502))) = true
            ·rw [if_pos c210] at H
             have c210b0 : (!(t497 == t501) || (!(t498 == t502))) = true := c210
             clear c210
             exact absurd H (by cases k3 <;> simp [laws_FnNear.j3])
            rw [if_neg c210] at H
            have c210b0 : (!(t497 == t501) || (!(t498 == t502))) = false := by simpa using c210
            clear c210
            by_cases c224 : t499 = 6
            ·rw [if_pos c224] at H
             have c224b0 : (t499 == 6) = true := beq_iff_eq.mpr c224
             have c224b1 : (t499 != 6) = false := bne_eq_false_iff_eq.mpr c224
             clear c224
             exact absurd H (by cases k3 <;> simp [laws_FnNear.j3])
            rw [if_neg c224] at H
            have c224b0 : (t499 == 6) = false := beq_eq_false_iff_ne.mpr c224
            have c224b1 : (t499 != 6) = true := bne_iff_ne.mpr c224
            by_cases c238 : t461 > (wrap64 (2 * x17_3))
            ·rw [if_pos c238] at H
             have c238b0 : decide ((wrap64 (2 * x17_3)) < t461) = true := decide_eq_true c238
             (try (have c238b1 : decide ((IntKind.i64.wrap (2 * x17_3)) < t461) = true := by have h_ : decide ((wrap64 (2 * x17_3)) < t461) = true := decide_eq_true c238; simpa only [zda, zfa] using h_))
             clear c238
             by_cases c239 : t499 = 0
             ·rw [if_pos c239] at H
              have c239b0 : (t499 == 0) = true := beq_iff_eq.mpr c239
              have c239b1 : (t499 != 0) = false := bne_eq_false_iff_eq.mpr c239
              clear c239
              have H' := za.mk H
              clear H
              have hnb240 := NB500_453.out
              have hnc240 := NB453_500.out
              have hnb241 := NB500_454.out
              have hnc241 := NB454_500.out
              have hnb242 := NB500_465.out
              have hnc242 := NB465_500.out
              have hnb243 := NB500_471.out
              have hnc243 := NB471_500.out
              have hnb244 := NB500_472.out
              have hnc244 := NB472_500.out
              have hnb245 := NB500_504.out
              have hnc245 := NB504_500.out
              obtain ⟨hcz246_0, hcz246_1⟩ := xc2 BK500
              obtain ⟨hfz246_0, hfz246_1⟩ := xf2 BK500
              have hnb247 := NB504_453.out
              have hnc247 := NB453_504.out
              have hnb248 := NB504_454.out
              have hnc248 := NB454_504.out
              have hnb249 := NB504_465.out
              have hnc249 := NB465_504.out
              have hnb250 := NB504_471.out
              have hnc250 := NB471_504.out
              have hnb251 := NB504_472.out
              have hnc251 := NB472_504.out
              obtain ⟨hcz252_0, hcz252_1⟩ := xc2 BK504
              obtain ⟨hfz252_0, hfz252_1⟩ := xf2 BK504
              have hnb253 := NB465_453.out
              have hnc253 := NB453_465.out
              have hnb254 := NB465_454.out
              have hnc254 := NB454_465.out
              have hnb255 := NB465_471.out
              have hnc255 := NB471_465.out
              have hnb256 := NB465_472.out
              have hnc256 := NB472_465.out
              obtain ⟨hcz257_0, hcz257_1⟩ := xc2 BK465
              obtain ⟨hfz257_0, hfz257_1⟩ := xf2 BK465
              go_wp2
              repeat (go_quiet (fail); try go_wp2)
              go_meet
              case rel => exact ⟨_, ((!(t501 == ((zf t455 t463).f0)) || (!(t502 == ((zf t455 t463).f1))))), (by first | rfl | (simp; done) | (simp [*]; done)), H', ⟨by have := HJ2.out; have := HJ20.out; have := HK3.out; first | omega | exact Nat.le_refl _⟩, ⟨by (with_reducible repeat (first | apply Kd.R_alloc | apply Kd.R_drewN | apply Kd.R_drew)); exact Kd.R_mono (Kd.R_far (p := ⟨gb504, 1, none⟩) (Kd.R_far (p := ⟨gb504, 0, none⟩) (Kd.R_types HO_454002.out BK504.out (by decide)) (fun _ hk => hk.2) (.int .i8 t501)) (fun _ hk => hk.2) (.bool t502)) (fun _ hk => ⟨hk.1.1, hk.1.2⟩)⟩, ⟨by (with_reducible repeat (first | refine zc ?_ _ | refine zd ?_ | refine zb ?_ _)); refine zm ?_ NB453_504.out _; (with_reducible repeat (first | refine zc ?_ _ | refine zd ?_ | refine zb ?_ _)); refine zm ?_ NB453_504.out _; (with_reducible repeat (first | refine zc ?_ _ | refine zd ?_ | refine zb ?_ _)); exact BK453.out⟩, ⟨by (with_reducible repeat (first | refine zc ?_ _ | refine zd ?_ | refine zb ?_ _)); refine zm ?_ NB454_504.out _; (with_reducible repeat (first | refine zc ?_ _ | refine zd ?_ | refine zb ?_ _)); refine zm ?_ NB454_504.out _; (with_reducible repeat (first | refine zc ?_ _ | refine zd ?_ | refine zb ?_ _)); exact BK454.out⟩, ⟨by (with_reducible repeat (first | refine zc ?_ _ | refine zd ?_ | refine zb ?_ _)); refine zm ?_ NB465_504.out _; (with_reducible repeat (first | refine zc ?_ _ | refine zd ?_ | refine zb ?_ _)); refine zm ?_ NB465_504.out _; (with_reducible repeat (first | refine zc ?_ _ | refine zd ?_ | refine zb ?_ _)); exact BK465.out⟩, ⟨by (with_reducible repeat (first | refine zc ?_ _ | refine zd ?_ | refine zb ?_ _)); refine zm ?_ NB471_504.out _; (with_reducible repeat (first | refine zc ?_ _ | refine zd ?_ | refine zb ?_ _)); refine zm ?_ NB471_504.out _; (with_reducible repeat (first | refine zc ?_ _ | refine zd ?_ | refine zb ?_ _)); exact BK471.out⟩, ⟨by (with_reducible repeat (first | refine zc ?_ _ | refine zd ?_ | refine zb ?_ _)); refine zm ?_ NB472_504.out _; (with_reducible repeat (first | refine zc ?_ _ | refine zd ?_ | refine zb ?_ _)); refine zm ?_ NB472_504.out _; (with_reducible repeat (first | refine zc ?_ _ | refine zd ?_ | refine zb ?_ _)); exact BK472.out⟩, ⟨by (with_reducible repeat (first | refine zc ?_ _ | refine zd ?_ | refine zb ?_ _)); refine zm ?_ NB500_504.out _; (with_reducible repeat (first | refine zc ?_ _ | refine zd ?_ | refine zb ?_ _)); refine zm ?_ NB500_504.out _; (with_reducible repeat (first | refine zc ?_ _ | refine zd ?_ | refine zb ?_ _)); exact BK500.out⟩, ⟨by (with_reducible repeat (first | refine zc ?_ _ | refine zd ?_ | refine zb ?_ _)); refine zl (cs := #[.int .i8 t501, .bool false]) ?_ 1 _ rfl; (with_reducible repeat (first | refine zc ?_ _ | refine zd ?_ | refine zb ?_ _)); refine zl (cs := #[.int .i8 0, .bool false]) ?_ 0 _ rfl; (with_reducible repeat (first | refine zc ?_ _ | refine zd ?_ | refine zb ?_ _)); exact BK504.out⟩, ⟨sB⟩⟩
             rw [if_neg c239] at H
             have c239b0 : (t499 == 0) = false := beq_eq_false_iff_ne.mpr c239
             have c239b1 : (t499 != 0) = true := bne_iff_ne.mpr c239
             exact absurd H (by cases k3 <;> simp [laws_FnNear.j3])
            rw [if_neg c238] at H
            have c238b0 : decide ((wrap64 (2 * x17_3)) < t461) = false := decide_eq_false c238
            (try (have c238b1 : decide ((IntKind.i64.wrap (2 * x17_3)) < t461) = false := by have h_ : decide ((wrap64 (2 * x17_3)) < t461) = false := decide_eq_false c238; simpa only [zda, zfa] using h_))
            clear c238
            have H' := za.mk H
            clear H
            have hnb271 := NB500_453.out
            have hnc271 := NB453_500.out
            have hnb272 := NB500_454.out
            have hnc272 := NB454_500.out
            have hnb273 := NB500_465.out
            have hnc273 := NB465_500.out
            have hnb274 := NB500_471.out
            have hnc274 := NB471_500.out
            have hnb275 := NB500_472.out
            have hnc275 := NB472_500.out
            have hnb276 := NB500_504.out
            have hnc276 := NB504_500.out
            obtain ⟨hcz277_0, hcz277_1⟩ := xc2 BK500
            obtain ⟨hfz277_0, hfz277_1⟩ := xf2 BK500
            have hnb278 := NB504_453.out
            have hnc278 := NB453_504.out
            have hnb279 := NB504_454.out
            have hnc279 := NB454_504.out
            have hnb280 := NB504_465.out
            have hnc280 := NB465_504.out
            have hnb281 := NB504_471.out
            have hnc281 := NB471_504.out
            have hnb282 := NB504_472.out
            have hnc282 := NB472_504.out
            obtain ⟨hcz283_0, hcz283_1⟩ := xc2 BK504
            obtain ⟨hfz283_0, hfz283_1⟩ := xf2 BK504
            go_wp2
            repeat (go_quiet (fail); try go_wp2)
            go_meet
            case rel => exact ⟨_, (false), (by first | rfl | (simp; done) | (simp [*]; done)), H', ⟨by have := HJ2.out; have := HJ20.out; have := HK3.out; first | omega | exact Nat.le_refl _⟩, ⟨by (with_reducible repeat (first | apply Kd.R_alloc | apply Kd.R_drewN | apply Kd.R_drew)); exact Kd.R_mono (Kd.R_far (p := ⟨gb504, 1, none⟩) (Kd.R_far (p := ⟨gb504, 0, none⟩) (Kd.R_types HO_454002.out BK504.out (by decide)) (fun _ hk => hk.2) (.int .i8 t501)) (fun _ hk => hk.2) (.bool t502)) (fun _ hk => ⟨hk.1.1, hk.1.2⟩)⟩, ⟨by (with_reducible repeat (first | refine zc ?_ _ | refine zd ?_ | refine zb ?_ _)); refine zm ?_ NB453_504.out _; (with_reducible repeat (first | refine zc ?_ _ | refine zd ?_ | refine zb ?_ _)); refine zm ?_ NB453_504.out _; (with_reducible repeat (first | refine zc ?_ _ | refine zd ?_ | refine zb ?_ _)); exact BK453.out⟩, ⟨by (with_reducible repeat (first | refine zc ?_ _ | refine zd ?_ | refine zb ?_ _)); refine zm ?_ NB454_504.out _; (with_reducible repeat (first | refine zc ?_ _ | refine zd ?_ | refine zb ?_ _)); refine zm ?_ NB454_504.out _; (with_reducible repeat (first | refine zc ?_ _ | refine zd ?_ | refine zb ?_ _)); exact BK454.out⟩, ⟨by (with_reducible repeat (first | refine zc ?_ _ | refine zd ?_ | refine zb ?_ _)); refine zm ?_ NB465_504.out _; (with_reducible repeat (first | refine zc ?_ _ | refine zd ?_ | refine zb ?_ _)); refine zm ?_ NB465_504.out _; (with_reducible repeat (first | refine zc ?_ _ | refine zd ?_ | refine zb ?_ _)); exact BK465.out⟩, ⟨by (with_reducible repeat (first | refine zc ?_ _ | refine zd ?_ | refine zb ?_ _)); refine zm ?_ NB471_504.out _; (with_reducible repeat (first | refine zc ?_ _ | refine zd ?_ | refine zb ?_ _)); refine zm ?_ NB471_504.out _; (with_reducible repeat (first | refine zc ?_ _ | refine zd ?_ | refine zb ?_ _)); exact BK471.out⟩, ⟨by (with_reducible repeat (first | refine zc ?_ _ | refine zd ?_ | refine zb ?_ _)); refine zm ?_ NB472_504.out _; (with_reducible repeat (first | refine zc ?_ _ | refine zd ?_ | refine zb ?_ _)); refine zm ?_ NB472_504.out _; (with_reducible repeat (first | refine zc ?_ _ | refine zd ?_ | refine zb ?_ _)); exact BK472.out⟩, ⟨by (with_reducible repeat (first | refine zc ?_ _ | refine zd ?_ | refine zb ?_ _)); refine zm ?_ NB500_504.out _; (with_reducible repeat (first | refine zc ?_ _ | refine zd ?_ | refine zb ?_ _)); refine zm ?_ NB500_504.out _; (with_reducible repeat (first | refine zc ?_ _ | refine zd ?_ | refine zb ?_ _)); exact BK500.out⟩, ⟨by (with_reducible repeat (first | refine zc ?_ _ | refine zd ?_ | refine zb ?_ _)); refine zl (cs := #[.int .i8 t501, .bool false]) ?_ 1 _ rfl; (with_reducible repeat (first | refine zc ?_ _ | refine zd ?_ | refine zb ?_ _)); refine zl (cs := #[.int .i8 0, .bool false]) ?_ 0 _ rfl; (with_reducible repeat (first | refine zc ?_ _ | refine zd ?_ | refine zb ?_ _)); exact BK504.out⟩, ⟨sB⟩⟩
           rw [if_neg c209] at H
           have c209b0 : (t499 == t503) = false := beq_eq_false_iff_ne.mpr c209
           have c209b1 : (t499 != t503) = true := bne_iff_ne.mpr c209
           exact absurd H (by cases k3 <;> simp [laws_FnNear.j3])
          rw [if_neg c208] at H
          have c208b0 : (t470 == 0) = false := beq_eq_false_iff_ne.mpr c208
          have c208b1 : (t470 != 0) = true := bne_iff_ne.mpr c208
          (first | rw [c208b0] | (simp only [zda, zfa]; rw [c208b0]) | skip)
          exact absurd H (by cases k3 <;> simp [laws_FnNear.j3])
         case rest =>
          clear HC179
          try clear c1
          try clear p1
          try clear q1
          try clear hx1
          try clear c2
          try clear p2
          try clear c3
          try clear c4
          try clear p4
          try clear q4
          try clear hx4
          try clear c5
          try clear c6
          try clear p6
          try clear c7
          try clear c8
          try clear p8
          try clear q8
          try clear c9
          try clear p9
          try clear q9
          try clear hx9
          try clear c10
          try clear hx10
          try clear c11
          try clear p11
          try clear q11
          try clear c12
          try clear p12
          try clear q12
          try clear hx12
          try clear c13
          try clear hx13
          try clear c14
          try clear p14
          try clear q14
          try clear c15
          try clear p15
          try clear q15
          try clear hx15
          try clear c16
          try clear p16
          try clear q16
          try clear c17
          try clear p17
          try clear q17
          try clear hx17
          try clear c18
          try clear c19
          try clear c20
          try clear c21
          try clear c22
          try clear c23
          try clear c24
          try clear c25
          try clear c26
          try clear c27
          try clear c28
          try clear c36
          try clear c36b0
          try clear c36b1
          try clear c37
          try clear c37b0
          try clear c37b1
          try clear c38
          try clear c40
          try clear c40b0
          try clear c41
          try clear c41b0
          try clear c46
          try clear p46
          try clear q46
          try clear hx46
          try clear c47
          try clear c49
          try clear c53
          try clear c54
          try clear c55
          try clear c58
          try clear c59
          try clear c60
          try clear c61
          try clear c63
          try clear c63b0
          try clear c63b1
          try clear c64
          try clear p64
          try clear c66
          try clear c66b0
          try clear c66b1
          try clear c67
          try clear c69
          try clear c69b0
          try clear c70
          try clear c70b0
          try clear c71
          try clear c71b0
          try clear c71b1
          try clear c71b2
          try clear c72
          try clear c73
          try clear c74
          try clear c75
          try clear p87
          try clear q87
          try clear c88
          try clear c89
          try clear c90
          try clear hx92
          try clear p94
          try clear q94
          try clear hx96
          try clear p97
          try clear q97
          try clear c98
          try clear c99
          try clear hx101
          try clear c102
          try clear c103
          try clear c104
          try clear c105
          try clear p117
          try clear q117
          try clear c118
          try clear c119
          try clear c120
          try clear hx122
          try clear p124
          try clear q124
          try clear hx126
          try clear p127
          try clear q127
          try clear c128
          try clear c129
          try clear hx131
          try clear c132
          try clear c132b0
          try clear c133
          try clear c133b0
          try clear c134
          try clear c134b0
          try clear c134b1
          try clear c135
          try clear c136
          try clear c137
          try clear c138
          try clear p145
          try clear q145
          try clear c146
          try clear c147
          try clear c148
          try clear hx150
          try clear p151
          try clear q151
          try clear c152
          try clear c153
          try clear hx155
          try clear c156
          try clear c157
          try clear c158
          try clear c159
          try clear p166
          try clear q166
          try clear c167
          try clear c168
          try clear c169
          try clear hx171
          try clear p172
          try clear q172
          try clear c173
          try clear c174
          try clear hx176
          try clear c180
          try clear c181
          try clear c182
          try clear c183
          try clear c185
          try clear c186
          try clear c187
          try clear c191
          try clear c192
          try clear c193
          try clear c194
          try clear c195
          try clear c201
          try clear c202
          try clear c203
          try clear c204
          try clear c205
          try clear c206
          try clear c208
          try clear c208b0
          try clear c208b1
          try clear c209
          try clear c209b0
          try clear c209b1
          try clear c210
          try clear c210b0
          try clear c211
          try clear c212
          try clear c213
          try clear c214
          try clear c215
          try clear c216
          try clear c218
          try clear c219
          try clear c220
          try clear c221
          try clear c222
          try clear c224
          try clear c224b0
          try clear c224b1
          try clear c225
          try clear c226
          try clear c227
          try clear c228
          try clear c229
          try clear c230
          try clear c232
          try clear c233
          try clear c234
          try clear c235
          try clear c236
          try clear c238
          try clear c238b0
          try clear c238b1
          try clear c239
          try clear c239b0
          try clear c239b1
          try clear c240
          try clear c241
          try clear c242
          try clear c243
          try clear c244
          try clear c245
          try clear c247
          try clear c248
          try clear c249
          try clear c250
          try clear c251
          try clear c253
          try clear c254
          try clear c255
          try clear c256
          try clear c258
          try clear c259
          try clear c260
          try clear c261
          try clear c262
          try clear c263
          try clear c265
          try clear c266
          try clear c267
          try clear c268
          try clear c269
          try clear c271
          try clear c272
          try clear c273
          try clear c274
          try clear c275
          try clear c276
          try clear c278
          try clear c279
          try clear c280
          try clear c281
          try clear c282
          try clear hcz100_0 hcz100_1 hcz100_2 hcz100_3
          try clear hcz106_0 hcz106_1 hcz106_2
          try clear hcz121_0 hcz121_1 hcz121_2 hcz121_3
          try clear hcz125_0 hcz125_1 hcz125_2 hcz125_3
          try clear hcz12_0 hcz12_1 hcz12_2
          try clear hcz130_0 hcz130_1 hcz130_2 hcz130_3
          try clear hcz139_0 hcz139_1 hcz139_2
          try clear hcz149_0 hcz149_1 hcz149_2 hcz149_3
          try clear hcz154_0 hcz154_1 hcz154_2 hcz154_3
          try clear hcz160_0 hcz160_1 hcz160_2
          try clear hcz16_0 hcz16_1 hcz16_2 hcz16_3
          try clear hcz170_0 hcz170_1 hcz170_2 hcz170_3
          try clear hcz175_0 hcz175_1 hcz175_2 hcz175_3
          try clear hcz17_0 hcz17_1 hcz17_2
          try clear hcz184_0 hcz184_1 hcz184_2
          try clear hcz188_0 hcz188_1 hcz188_2 hcz188_3
          try clear hcz196_0 hcz196_1
          try clear hcz197_0 hcz197_1 hcz197_2
          try clear hcz198_0 hcz198_1 hcz198_2 hcz198_3
          try clear hcz207_0 hcz207_1
          try clear hcz217_0 hcz217_1
          try clear hcz223_0 hcz223_1
          try clear hcz231_0 hcz231_1
          try clear hcz237_0 hcz237_1
          try clear hcz246_0 hcz246_1
          try clear hcz24_0 hcz24_1 hcz24_2
          try clear hcz252_0 hcz252_1
          try clear hcz257_0 hcz257_1
          try clear hcz264_0 hcz264_1
          try clear hcz270_0 hcz270_1
          try clear hcz277_0 hcz277_1
          try clear hcz283_0 hcz283_1
          try clear hcz28_0 hcz28_1 hcz28_2 hcz28_3
          try clear hcz29_0 hcz29_1 hcz29_2
          try clear hcz31_0 hcz31_1 hcz31_2
          try clear hcz33_0 hcz33_1 hcz33_2
          try clear hcz48_0 hcz48_1
          try clear hcz50_0 hcz50_1 hcz50_2
          try clear hcz56_0 hcz56_1 hcz56_2 hcz56_3
          try clear hcz62_0 hcz62_1 hcz62_2 hcz62_3
          try clear hcz76_0 hcz76_1 hcz76_2
          try clear hcz91_0 hcz91_1 hcz91_2 hcz91_3
          try clear hcz95_0 hcz95_1 hcz95_2 hcz95_3
          try clear hfz100_0 hfz100_1 hfz100_2 hfz100_3
          try clear hfz106_0 hfz106_1 hfz106_2
          try clear hfz121_0 hfz121_1 hfz121_2 hfz121_3
          try clear hfz122_0
          try clear hfz125_0 hfz125_1 hfz125_2 hfz125_3
          try clear hfz12_0 hfz12_1 hfz12_2
          try clear hfz130_0 hfz130_1 hfz130_2 hfz130_3
          try clear hfz139_0 hfz139_1 hfz139_2
          try clear hfz149_0 hfz149_1 hfz149_2 hfz149_3
          try clear hfz154_0 hfz154_1 hfz154_2 hfz154_3
          try clear hfz160_0 hfz160_1 hfz160_2
          try clear hfz16_0 hfz16_1 hfz16_2 hfz16_3
          try clear hfz170_0 hfz170_1 hfz170_2 hfz170_3
          try clear hfz175_0 hfz175_1 hfz175_2 hfz175_3
          try clear hfz17_0 hfz17_1 hfz17_2
          try clear hfz184_0 hfz184_1 hfz184_2
          try clear hfz188_0 hfz188_1 hfz188_2 hfz188_3
          try clear hfz196_0 hfz196_1
          try clear hfz197_0 hfz197_1 hfz197_2
          try clear hfz198_0 hfz198_1 hfz198_2 hfz198_3
          try clear hfz207_0 hfz207_1
          try clear hfz217_0 hfz217_1
          try clear hfz223_0 hfz223_1
          try clear hfz231_0 hfz231_1
          try clear hfz237_0 hfz237_1
          try clear hfz246_0 hfz246_1
          try clear hfz24_0 hfz24_1 hfz24_2
          try clear hfz252_0 hfz252_1
          try clear hfz257_0 hfz257_1
          try clear hfz264_0 hfz264_1
          try clear hfz270_0 hfz270_1
          try clear hfz277_0 hfz277_1
          try clear hfz283_0 hfz283_1
          try clear hfz28_0 hfz28_1 hfz28_2 hfz28_3
          try clear hfz29_0 hfz29_1 hfz29_2
          try clear hfz31_0 hfz31_1 hfz31_2
          try clear hfz33_0 hfz33_1 hfz33_2
          try clear hfz48_0 hfz48_1
          try clear hfz50_0 hfz50_1 hfz50_2
          try clear hfz56_0 hfz56_1 hfz56_2 hfz56_3
          try clear hfz62_0 hfz62_1 hfz62_2 hfz62_3
          try clear hfz76_0 hfz76_1 hfz76_2
          try clear hfz91_0 hfz91_1 hfz91_2 hfz91_3
          try clear hfz92_0
          try clear hfz95_0 hfz95_1 hfz95_2 hfz95_3
          try clear hx101_0
          try clear hx122_0
          try clear hx126_0
          try clear hx131_0
          try clear hx150_0
          try clear hx155_0
          try clear hx171_0
          try clear hx176_0
          try clear hx464_0
          try clear hx464_1
          try clear hx92_0
          try clear hx96_0
          try clear p117
          try clear p124
          try clear p127
          try clear p145
          try clear p151
          try clear p166
          try clear p172
          try clear p2
          try clear p46
          try clear p464
          try clear p87
          try clear p94
          try clear p97
          try clear q117
          try clear q124
          try clear q127
          try clear q145
          try clear q151
          try clear q166
          try clear q172
          try clear q46
          try clear q464
          try clear q87
          try clear q94
          try clear q97
          obtain ⟨kq, x167_178, rfl, HA, HJ178, HO_454002, BK453, BK454, BK465, BK471, BK472, BK500, BK504, HB⟩ := hcut
          cases kq with
          | zero => exact absurd HA.out (by simp [laws_FnNear.j3])
          | succ kj178 =>
           have H := HA.out
           clear HA
           simp only [laws_FnNear.j3] at H
           by_cases c284 : x167_178 = true
           ·subst c284
            have H1 : (some false) = some true := by rw [if_pos rfl] at H; exact H
            clear H
            have H := H1
            clear H1
            exact absurd H (by simp)
           replace c284 := Bool.eq_false_iff.mpr c284
           subst c284
           have H1 : (if t499 = 0 then (if (!(t501 == ((zf t455 t463).f0)) || (!(t502 == ((zf t455 t463).f1)))) = true then (some false) else ((impl_DecodeNear.f kj178 t448 t449 t450 t466 t467 t468 t469 0).bind fun bt505 => (if bt505.2.2 = 0 then (if (bt505.1 == ((zf t455 t463).f0) && (bt505.2.1 == ((zf t455 t463).f1))) = true then (some true) else (if bt505.2.2 = 8 then (some (t461 == 0)) else (some false))) else (if bt505.2.2 = 8 then (some (t461 == 0)) else (some false))))) else (some (t499 == 8))) = some true := by rw [if_neg (show ¬ (false = true) by decide)] at H; exact H
           clear H
           have H := H1
           clear H1
           by_cases c285 : t499 = 0
           ·rw [if_pos c285] at H
            have c285b0 : (t499 == 0) = true := beq_iff_eq.mpr c285
            have c285b1 : (t499 != 0) = false := bne_eq_false_iff_eq.mpr c285
            clear c285
            by_cases c286 : (!(t501 == ((zf t455 t463).f0)) || (!(t502 == ((zf t455 t463).f1)))) = true
            ·rw [if_pos c286] at H
             have c286b0 : (!(t501 == ((zf t455 t463).f0)) || (!(t502 == ((zf t455 t463).f1)))) = true := c286
             clear c286
             exact absurd H (by simp)
            rw [if_neg c286] at H
            have c286b0 : (!(t501 == ((zf t455 t463).f0)) || (!(t502 == ((zf t455 t463).f1)))) = false := by simpa using c286
            clear c286
            replace H := Option.bind_eq_some_iff.mp H
            obtain ⟨⟨t505, t506, t507⟩, A3000, H⟩ := H
            replace H : (if t507 = 0 then (if (t505 == ((zf t455 t463).f0) && (t506 == ((zf t455 t463).f1))) = true then (some true) else (if t507 = 8 then (some (t461 == 0)) else (some false))) else (if t507 = 8 then (some (t461 == 0)) else (some false))) = some true := H
            have A300 := za.mk A3000
            clear A3000
            by_cases c301 : t507 = 0
            ·rw [if_pos c301] at H
             have c301b0 : (t507 == 0) = true := beq_iff_eq.mpr c301
             have c301b1 : (t507 != 0) = false := bne_eq_false_iff_eq.mpr c301
             clear c301
             by_cases c302 : (t505 == ((zf t455 t463).f0) && (t506 == ((zf t455 t463).f1))) = true
             ·rw [if_pos c302] at H
              have c302b0 : (t505 == ((zf t455 t463).f0) && (t506 == ((zf t455 t463).f1))) = true := c302
              (try (have c302b1 : decide (t505 = ((zf t455 t463).f0) && (t506 == ((zf t455 t463).f1))) = true := by simpa using c302))
              (try (have c302b2 : (t505 == ((zf t455 t463).f0) && (t506 == ((zf t455 t463).f1))) = true := by simpa using c302))
              clear c302
              clear H
              have hnb303 := NB504_453.out
              have hnc303 := NB453_504.out
              have hnb304 := NB504_454.out
              have hnc304 := NB454_504.out
              have hnb305 := NB504_465.out
              have hnc305 := NB465_504.out
              have hnb306 := NB504_471.out
              have hnc306 := NB471_504.out
              have hnb307 := NB504_472.out
              have hnc307 := NB472_504.out
              have hnb308 := NB504_500.out
              have hnc308 := NB500_504.out
              obtain ⟨hcz309_0, hcz309_1⟩ := xc2 BK504
              obtain ⟨hfz309_0, hfz309_1⟩ := xf2 BK504
              have hnb310 := NB465_453.out
              have hnc310 := NB453_465.out
              have hnb311 := NB465_454.out
              have hnc311 := NB454_465.out
              have hnb312 := NB465_471.out
              have hnc312 := NB471_465.out
              have hnb313 := NB465_472.out
              have hnc313 := NB472_465.out
              have hnb314 := NB465_500.out
              have hnc314 := NB500_465.out
              obtain ⟨hcz315_0, hcz315_1⟩ := xc2 BK465
              obtain ⟨hfz315_0, hfz315_1⟩ := xf2 BK465
              have hnb316 := NB453_454.out
              have hnc316 := NB454_453.out
              have hnb317 := NB453_471.out
              have hnc317 := NB471_453.out
              have hnb318 := NB453_472.out
              have hnc318 := NB472_453.out
              have hnb319 := NB453_500.out
              have hnc319 := NB500_453.out
              obtain ⟨hcz320_0, hcz320_1, hcz320_2⟩ := xc3 BK453
              obtain ⟨hfz320_0, hfz320_1, hfz320_2⟩ := xf3 BK453
              have hnb321 := NB471_454.out
              have hnc321 := NB454_471.out
              have hnb322 := NB471_472.out
              have hnc322 := NB472_471.out
              have hnb323 := NB471_500.out
              have hnc323 := NB500_471.out
              obtain ⟨hcz324_0, hcz324_1, hcz324_2, hcz324_3⟩ := xc4 BK471
              obtain ⟨hfz324_0, hfz324_1, hfz324_2, hfz324_3⟩ := xf4 BK471
              go_wp2_with (first | (go_at_call 30; (with_reducible refine (impl_DecodeNear.calls kj178 t448 t449 _ _ t450 t466 t467 t468 t469 0 t505 t506 t507 _ ?side1 ?side2 A300.out).mono ?_); (case side1 => exact uQ HO_454002); (case side2 => exact (Kd.R_reads' HO_454002.out).2.1); rintro e w325 ⟨rfl, hb⟩; replace HO_454002 := dR HO_454002 hb; replace BK453 := dK BK453 hb; replace BK454 := dK BK454 hb; replace BK465 := dK BK465 hb; replace BK471 := dK BK471 hb; replace BK472 := dK BK472 hb; replace BK500 := dK BK500 hb; replace BK504 := dK BK504 hb; replace HB := za.mk (ze sB hb); try clear hb) | ((with_reducible refine zn (N := 23) rfl ?_); refine bx (N := 23) #[.int .i8 0, .bool false] 38 rfl ?_; intro gb508 hg w326 hbox hb; have BK508 := za.mk hbox; have GW508 := gB hg; have GE508 := GW508; have NB453_508 := nK hg BK453; have NB508_453 := za.mk NB453_508.out.symm; have NB454_508 := nK hg BK454; have NB508_454 := za.mk NB454_508.out.symm; have NB465_508 := nK hg BK465; have NB508_465 := za.mk NB465_508.out.symm; have NB471_508 := nK hg BK471; have NB508_471 := za.mk NB471_508.out.symm; have NB472_508 := nK hg BK472; have NB508_472 := za.mk NB472_508.out.symm; have NB500_508 := nK hg BK500; have NB508_500 := za.mk NB500_508.out.symm; have NB504_508 := nK hg BK504; have NB508_504 := za.mk NB504_508.out.symm; replace HO_454002 := dR HO_454002 hb; replace BK453 := dK BK453 hb; replace BK454 := dK BK454 hb; replace BK465 := dK BK465 hb; replace BK471 := dK BK471 hb; replace BK472 := dK BK472 hb; replace BK500 := dK BK500 hb; replace BK504 := dK BK504 hb; replace HB := za.mk (ze sB hb); clear hb hbox hg; have hnb327 := NB508_453.out; have hnc327 := NB453_508.out; have hnb328 := NB508_454.out; have hnc328 := NB454_508.out; have hnb329 := NB508_465.out; have hnc329 := NB465_508.out; have hnb330 := NB508_471.out; have hnc330 := NB471_508.out; have hnb331 := NB508_472.out; have hnc331 := NB472_508.out; have hnb332 := NB508_500.out; have hnc332 := NB500_508.out; have hnb333 := NB508_504.out; have hnc333 := NB504_508.out; obtain ⟨hcz334_0, hcz334_1⟩ := xc2 BK508; obtain ⟨hfz334_0, hfz334_1⟩ := xf2 BK508; obtain ⟨hcz335_0, hcz335_1⟩ := xc2 BK465; obtain ⟨hfz335_0, hfz335_1⟩ := xf2 BK465))
              repeat (go_quiet (fail); try go_wp2_with (first | (go_at_call 30; (with_reducible refine (impl_DecodeNear.calls kj178 t448 t449 _ _ t450 t466 t467 t468 t469 0 t505 t506 t507 _ ?side1 ?side2 A300.out).mono ?_); (case side1 => exact uQ HO_454002); (case side2 => exact (Kd.R_reads' HO_454002.out).2.1); rintro e w325 ⟨rfl, hb⟩; replace HO_454002 := dR HO_454002 hb; replace BK453 := dK BK453 hb; replace BK454 := dK BK454 hb; replace BK465 := dK BK465 hb; replace BK471 := dK BK471 hb; replace BK472 := dK BK472 hb; replace BK500 := dK BK500 hb; replace BK504 := dK BK504 hb; replace HB := za.mk (ze sB hb); try clear hb) | ((with_reducible refine zn (N := 23) rfl ?_); refine bx (N := 23) #[.int .i8 0, .bool false] 38 rfl ?_; intro gb508 hg w326 hbox hb; have BK508 := za.mk hbox; have GW508 := gB hg; have GE508 := GW508; have NB453_508 := nK hg BK453; have NB508_453 := za.mk NB453_508.out.symm; have NB454_508 := nK hg BK454; have NB508_454 := za.mk NB454_508.out.symm; have NB465_508 := nK hg BK465; have NB508_465 := za.mk NB465_508.out.symm; have NB471_508 := nK hg BK471; have NB508_471 := za.mk NB471_508.out.symm; have NB472_508 := nK hg BK472; have NB508_472 := za.mk NB472_508.out.symm; have NB500_508 := nK hg BK500; have NB508_500 := za.mk NB500_508.out.symm; have NB504_508 := nK hg BK504; have NB508_504 := za.mk NB504_508.out.symm; replace HO_454002 := dR HO_454002 hb; replace BK453 := dK BK453 hb; replace BK454 := dK BK454 hb; replace BK465 := dK BK465 hb; replace BK471 := dK BK471 hb; replace BK472 := dK BK472 hb; replace BK500 := dK BK500 hb; replace BK504 := dK BK504 hb; replace HB := za.mk (ze sB hb); clear hb hbox hg; have hnb327 := NB508_453.out; have hnc327 := NB453_508.out; have hnb328 := NB508_454.out; have hnc328 := NB454_508.out; have hnb329 := NB508_465.out; have hnc329 := NB465_508.out; have hnb330 := NB508_471.out; have hnc330 := NB471_508.out; have hnb331 := NB508_472.out; have hnc331 := NB472_508.out; have hnb332 := NB508_500.out; have hnc332 := NB500_508.out; have hnb333 := NB508_504.out; have hnc333 := NB504_508.out; obtain ⟨hcz334_0, hcz334_1⟩ := xc2 BK508; obtain ⟨hfz334_0, hfz334_1⟩ := xf2 BK508; obtain ⟨hcz335_0, hcz335_1⟩ := xc2 BK465; obtain ⟨hfz335_0, hfz335_1⟩ := xf2 BK465)))
              go_ret
              exact ⟨by first | rfl | (simp [zk, zj] <;> rfl) | (simp [*, zk, zj] <;> rfl), sB⟩
             rw [if_neg c302] at H
             have c302b0 : (t505 == ((zf t455 t463).f0) && (t506 == ((zf t455 t463).f1))) = false := by simpa using c302
             (try (have c302b1 : decide (t505 = ((zf t455 t463).f0) && (t506 == ((zf t455 t463).f1))) = false := by simpa using c302))
             (try (have c302b2 : (t505 == ((zf t455 t463).f0) && (t506 == ((zf t455 t463).f1))) = false := by simpa using c302))
             (try (have c302b3 : ¬ (t505 = ((zf t455 t463).f0) && (t506 == ((zf t455 t463).f1))) := by simpa using c302))
             clear c302
             by_cases c336 : t507 = 8
             ·rw [if_pos c336] at H
              have c336b0 : (t507 == 8) = true := beq_iff_eq.mpr c336
              have c336b1 : (t507 != 8) = false := bne_eq_false_iff_eq.mpr c336
              clear c336
              have HT := Option.some.inj H
              have hnb337 := NB504_453.out
              have hnc337 := NB453_504.out
              have hnb338 := NB504_454.out
              have hnc338 := NB454_504.out
              have hnb339 := NB504_465.out
              have hnc339 := NB465_504.out
              have hnb340 := NB504_471.out
              have hnc340 := NB471_504.out
              have hnb341 := NB504_472.out
              have hnc341 := NB472_504.out
              have hnb342 := NB504_500.out
              have hnc342 := NB500_504.out
              obtain ⟨hcz343_0, hcz343_1⟩ := xc2 BK504
              obtain ⟨hfz343_0, hfz343_1⟩ := xf2 BK504
              have hnb344 := NB465_453.out
              have hnc344 := NB453_465.out
              have hnb345 := NB465_454.out
              have hnc345 := NB454_465.out
              have hnb346 := NB465_471.out
              have hnc346 := NB471_465.out
              have hnb347 := NB465_472.out
              have hnc347 := NB472_465.out
              have hnb348 := NB465_500.out
              have hnc348 := NB500_465.out
              obtain ⟨hcz349_0, hcz349_1⟩ := xc2 BK465
              obtain ⟨hfz349_0, hfz349_1⟩ := xf2 BK465
              have hnb350 := NB453_454.out
              have hnc350 := NB454_453.out
              have hnb351 := NB453_471.out
              have hnc351 := NB471_453.out
              have hnb352 := NB453_472.out
              have hnc352 := NB472_453.out
              have hnb353 := NB453_500.out
              have hnc353 := NB500_453.out
              obtain ⟨hcz354_0, hcz354_1, hcz354_2⟩ := xc3 BK453
              obtain ⟨hfz354_0, hfz354_1, hfz354_2⟩ := xf3 BK453
              have hnb355 := NB471_454.out
              have hnc355 := NB454_471.out
              have hnb356 := NB471_472.out
              have hnc356 := NB472_471.out
              have hnb357 := NB471_500.out
              have hnc357 := NB500_471.out
              obtain ⟨hcz358_0, hcz358_1, hcz358_2, hcz358_3⟩ := xc4 BK471
              obtain ⟨hfz358_0, hfz358_1, hfz358_2, hfz358_3⟩ := xf4 BK471
              go_wp2_with (first | (go_at_call 30; (with_reducible refine (impl_DecodeNear.calls kj178 t448 t449 _ _ t450 t466 t467 t468 t469 0 t505 t506 t507 _ ?side1 ?side2 A300.out).mono ?_); (case side1 => exact uQ HO_454002); (case side2 => exact (Kd.R_reads' HO_454002.out).2.1); rintro e w359 ⟨rfl, hb⟩; replace HO_454002 := dR HO_454002 hb; replace BK453 := dK BK453 hb; replace BK454 := dK BK454 hb; replace BK465 := dK BK465 hb; replace BK471 := dK BK471 hb; replace BK472 := dK BK472 hb; replace BK500 := dK BK500 hb; replace BK504 := dK BK504 hb; replace HB := za.mk (ze sB hb); try clear hb) | ((with_reducible refine zn (N := 23) rfl ?_); refine bx (N := 23) #[.int .i8 0, .bool false] 38 rfl ?_; intro gb508 hg w360 hbox hb; have BK508 := za.mk hbox; have GW508 := gB hg; have GE508 := GW508; have NB453_508 := nK hg BK453; have NB508_453 := za.mk NB453_508.out.symm; have NB454_508 := nK hg BK454; have NB508_454 := za.mk NB454_508.out.symm; have NB465_508 := nK hg BK465; have NB508_465 := za.mk NB465_508.out.symm; have NB471_508 := nK hg BK471; have NB508_471 := za.mk NB471_508.out.symm; have NB472_508 := nK hg BK472; have NB508_472 := za.mk NB472_508.out.symm; have NB500_508 := nK hg BK500; have NB508_500 := za.mk NB500_508.out.symm; have NB504_508 := nK hg BK504; have NB508_504 := za.mk NB504_508.out.symm; replace HO_454002 := dR HO_454002 hb; replace BK453 := dK BK453 hb; replace BK454 := dK BK454 hb; replace BK465 := dK BK465 hb; replace BK471 := dK BK471 hb; replace BK472 := dK BK472 hb; replace BK500 := dK BK500 hb; replace BK504 := dK BK504 hb; replace HB := za.mk (ze sB hb); clear hb hbox hg; have hnb361 := NB508_453.out; have hnc361 := NB453_508.out; have hnb362 := NB508_454.out; have hnc362 := NB454_508.out; have hnb363 := NB508_465.out; have hnc363 := NB465_508.out; have hnb364 := NB508_471.out; have hnc364 := NB471_508.out; have hnb365 := NB508_472.out; have hnc365 := NB472_508.out; have hnb366 := NB508_500.out; have hnc366 := NB500_508.out; have hnb367 := NB508_504.out; have hnc367 := NB504_508.out; obtain ⟨hcz368_0, hcz368_1⟩ := xc2 BK508; obtain ⟨hfz368_0, hfz368_1⟩ := xf2 BK508; obtain ⟨hcz369_0, hcz369_1⟩ := xc2 BK465; obtain ⟨hfz369_0, hfz369_1⟩ := xf2 BK465))
              repeat (go_quiet (fail); try go_wp2_with (first | (go_at_call 30; (with_reducible refine (impl_DecodeNear.calls kj178 t448 t449 _ _ t450 t466 t467 t468 t469 0 t505 t506 t507 _ ?side1 ?side2 A300.out).mono ?_); (case side1 => exact uQ HO_454002); (case side2 => exact (Kd.R_reads' HO_454002.out).2.1); rintro e w359 ⟨rfl, hb⟩; replace HO_454002 := dR HO_454002 hb; replace BK453 := dK BK453 hb; replace BK454 := dK BK454 hb; replace BK465 := dK BK465 hb; replace BK471 := dK BK471 hb; replace BK472 := dK BK472 hb; replace BK500 := dK BK500 hb; replace BK504 := dK BK504 hb; replace HB := za.mk (ze sB hb); try clear hb) | ((with_reducible refine zn (N := 23) rfl ?_); refine bx (N := 23) #[.int .i8 0, .bool false] 38 rfl ?_; intro gb508 hg w360 hbox hb; have BK508 := za.mk hbox; have GW508 := gB hg; have GE508 := GW508; have NB453_508 := nK hg BK453; have NB508_453 := za.mk NB453_508.out.symm; have NB454_508 := nK hg BK454; have NB508_454 := za.mk NB454_508.out.symm; have NB465_508 := nK hg BK465; have NB508_465 := za.mk NB465_508.out.symm; have NB471_508 := nK hg BK471; have NB508_471 := za.mk NB471_508.out.symm; have NB472_508 := nK hg BK472; have NB508_472 := za.mk NB472_508.out.symm; have NB500_508 := nK hg BK500; have NB508_500 := za.mk NB500_508.out.symm; have NB504_508 := nK hg BK504; have NB508_504 := za.mk NB504_508.out.symm; replace HO_454002 := dR HO_454002 hb; replace BK453 := dK BK453 hb; replace BK454 := dK BK454 hb; replace BK465 := dK BK465 hb; replace BK471 := dK BK471 hb; replace BK472 := dK BK472 hb; replace BK500 := dK BK500 hb; replace BK504 := dK BK504 hb; replace HB := za.mk (ze sB hb); clear hb hbox hg; have hnb361 := NB508_453.out; have hnc361 := NB453_508.out; have hnb362 := NB508_454.out; have hnc362 := NB454_508.out; have hnb363 := NB508_465.out; have hnc363 := NB465_508.out; have hnb364 := NB508_471.out; have hnc364 := NB471_508.out; have hnb365 := NB508_472.out; have hnc365 := NB472_508.out; have hnb366 := NB508_500.out; have hnc366 := NB500_508.out; have hnb367 := NB508_504.out; have hnc367 := NB504_508.out; obtain ⟨hcz368_0, hcz368_1⟩ := xc2 BK508; obtain ⟨hfz368_0, hfz368_1⟩ := xf2 BK508; obtain ⟨hcz369_0, hcz369_1⟩ := xc2 BK465; obtain ⟨hfz369_0, hfz369_1⟩ := xf2 BK465)))
              go_ret
              exact ⟨by first | rfl | (simp [zk, zj] <;> rfl) | (simp [*, zk, zj] <;> rfl), sB⟩
             rw [if_neg c336] at H
             have c336b0 : (t507 == 8) = false := beq_eq_false_iff_ne.mpr c336
             have c336b1 : (t507 != 8) = true := bne_iff_ne.mpr c336
             exact absurd H (by simp)
            rw [if_neg c301] at H
            have c301b0 : (t507 == 0) = false := beq_eq_false_iff_ne.mpr c301
            have c301b1 : (t507 != 0) = true := bne_iff_ne.mpr c301
            by_cases c403 : t507 = 8
            ·rw [if_pos c403] at H
             have c403b0 : (t507 == 8) = true := beq_iff_eq.mpr c403
             have c403b1 : (t507 != 8) = false := bne_eq_false_iff_eq.mpr c403
             clear c403
             have HT := Option.some.inj H
             have hnb404 := NB504_453.out
             have hnc404 := NB453_504.out
             have hnb405 := NB504_454.out
             have hnc405 := NB454_504.out
             have hnb406 := NB504_465.out
             have hnc406 := NB465_504.out
             have hnb407 := NB504_471.out
             have hnc407 := NB471_504.out
             have hnb408 := NB504_472.out
             have hnc408 := NB472_504.out
             have hnb409 := NB504_500.out
             have hnc409 := NB500_504.out
             obtain ⟨hcz410_0, hcz410_1⟩ := xc2 BK504
             obtain ⟨hfz410_0, hfz410_1⟩ := xf2 BK504
             have hnb411 := NB465_453.out
             have hnc411 := NB453_465.out
             have hnb412 := NB465_454.out
             have hnc412 := NB454_465.out
             have hnb413 := NB465_471.out
             have hnc413 := NB471_465.out
             have hnb414 := NB465_472.out
             have hnc414 := NB472_465.out
             have hnb415 := NB465_500.out
             have hnc415 := NB500_465.out
             obtain ⟨hcz416_0, hcz416_1⟩ := xc2 BK465
             obtain ⟨hfz416_0, hfz416_1⟩ := xf2 BK465
             have hnb417 := NB453_454.out
             have hnc417 := NB454_453.out
             have hnb418 := NB453_471.out
             have hnc418 := NB471_453.out
             have hnb419 := NB453_472.out
             have hnc419 := NB472_453.out
             have hnb420 := NB453_500.out
             have hnc420 := NB500_453.out
             obtain ⟨hcz421_0, hcz421_1, hcz421_2⟩ := xc3 BK453
             obtain ⟨hfz421_0, hfz421_1, hfz421_2⟩ := xf3 BK453
             have hnb422 := NB471_454.out
             have hnc422 := NB454_471.out
             have hnb423 := NB471_472.out
             have hnc423 := NB472_471.out
             have hnb424 := NB471_500.out
             have hnc424 := NB500_471.out
             obtain ⟨hcz425_0, hcz425_1, hcz425_2, hcz425_3⟩ := xc4 BK471
             obtain ⟨hfz425_0, hfz425_1, hfz425_2, hfz425_3⟩ := xf4 BK471
             go_wp2_with (first | (go_at_call 30; (with_reducible refine (impl_DecodeNear.calls kj178 t448 t449 _ _ t450 t466 t467 t468 t469 0 t505 t506 t507 _ ?side1 ?side2 A300.out).mono ?_); (case side1 => exact uQ HO_454002); (case side2 => exact (Kd.R_reads' HO_454002.out).2.1); rintro e w426 ⟨rfl, hb⟩; replace HO_454002 := dR HO_454002 hb; replace BK453 := dK BK453 hb; replace BK454 := dK BK454 hb; replace BK465 := dK BK465 hb; replace BK471 := dK BK471 hb; replace BK472 := dK BK472 hb; replace BK500 := dK BK500 hb; replace BK504 := dK BK504 hb; replace HB := za.mk (ze sB hb); try clear hb) | ((with_reducible refine zn (N := 23) rfl ?_); refine bx (N := 23) #[.int .i8 0, .bool false] 38 rfl ?_; intro gb508 hg w427 hbox hb; have BK508 := za.mk hbox; have GW508 := gB hg; have GE508 := GW508; have NB453_508 := nK hg BK453; have NB508_453 := za.mk NB453_508.out.symm; have NB454_508 := nK hg BK454; have NB508_454 := za.mk NB454_508.out.symm; have NB465_508 := nK hg BK465; have NB508_465 := za.mk NB465_508.out.symm; have NB471_508 := nK hg BK471; have NB508_471 := za.mk NB471_508.out.symm; have NB472_508 := nK hg BK472; have NB508_472 := za.mk NB472_508.out.symm; have NB500_508 := nK hg BK500; have NB508_500 := za.mk NB500_508.out.symm; have NB504_508 := nK hg BK504; have NB508_504 := za.mk NB504_508.out.symm; replace HO_454002 := dR HO_454002 hb; replace BK453 := dK BK453 hb; replace BK454 := dK BK454 hb; replace BK465 := dK BK465 hb; replace BK471 := dK BK471 hb; replace BK472 := dK BK472 hb; replace BK500 := dK BK500 hb; replace BK504 := dK BK504 hb; replace HB := za.mk (ze sB hb); clear hb hbox hg; have hnb428 := NB508_453.out; have hnc428 := NB453_508.out; have hnb429 := NB508_454.out; have hnc429 := NB454_508.out; have hnb430 := NB508_465.out; have hnc430 := NB465_508.out; have hnb431 := NB508_471.out; have hnc431 := NB471_508.out; have hnb432 := NB508_472.out; have hnc432 := NB472_508.out; have hnb433 := NB508_500.out; have hnc433 := NB500_508.out; have hnb434 := NB508_504.out; have hnc434 := NB504_508.out; obtain ⟨hcz435_0, hcz435_1⟩ := xc2 BK508; obtain ⟨hfz435_0, hfz435_1⟩ := xf2 BK508))
             repeat (go_quiet (fail); try go_wp2_with (first | (go_at_call 30; (with_reducible refine (impl_DecodeNear.calls kj178 t448 t449 _ _ t450 t466 t467 t468 t469 0 t505 t506 t507 _ ?side1 ?side2 A300.out).mono ?_); (case side1 => exact uQ HO_454002); (case side2 => exact (Kd.R_reads' HO_454002.out).2.1); rintro e w426 ⟨rfl, hb⟩; replace HO_454002 := dR HO_454002 hb; replace BK453 := dK BK453 hb; replace BK454 := dK BK454 hb; replace BK465 := dK BK465 hb; replace BK471 := dK BK471 hb; replace BK472 := dK BK472 hb; replace BK500 := dK BK500 hb; replace BK504 := dK BK504 hb; replace HB := za.mk (ze sB hb); try clear hb) | ((with_reducible refine zn (N := 23) rfl ?_); refine bx (N := 23) #[.int .i8 0, .bool false] 38 rfl ?_; intro gb508 hg w427 hbox hb; have BK508 := za.mk hbox; have GW508 := gB hg; have GE508 := GW508; have NB453_508 := nK hg BK453; have NB508_453 := za.mk NB453_508.out.symm; have NB454_508 := nK hg BK454; have NB508_454 := za.mk NB454_508.out.symm; have NB465_508 := nK hg BK465; have NB508_465 := za.mk NB465_508.out.symm; have NB471_508 := nK hg BK471; have NB508_471 := za.mk NB471_508.out.symm; have NB472_508 := nK hg BK472; have NB508_472 := za.mk NB472_508.out.symm; have NB500_508 := nK hg BK500; have NB508_500 := za.mk NB500_508.out.symm; have NB504_508 := nK hg BK504; have NB508_504 := za.mk NB504_508.out.symm; replace HO_454002 := dR HO_454002 hb; replace BK453 := dK BK453 hb; replace BK454 := dK BK454 hb; replace BK465 := dK BK465 hb; replace BK471 := dK BK471 hb; replace BK472 := dK BK472 hb; replace BK500 := dK BK500 hb; replace BK504 := dK BK504 hb; replace HB := za.mk (ze sB hb); clear hb hbox hg; have hnb428 := NB508_453.out; have hnc428 := NB453_508.out; have hnb429 := NB508_454.out; have hnc429 := NB454_508.out; have hnb430 := NB508_465.out; have hnc430 := NB465_508.out; have hnb431 := NB508_471.out; have hnc431 := NB471_508.out; have hnb432 := NB508_472.out; have hnc432 := NB472_508.out; have hnb433 := NB508_500.out; have hnc433 := NB500_508.out; have hnb434 := NB508_504.out; have hnc434 := NB504_508.out; obtain ⟨hcz435_0, hcz435_1⟩ := xc2 BK508; obtain ⟨hfz435_0, hfz435_1⟩ := xf2 BK508)))
             go_ret
             exact ⟨by first | rfl | (simp [zk, zj] <;> rfl) | (simp [*, zk, zj] <;> rfl), sB⟩
            rw [if_neg c403] at H
            have c403b0 : (t507 == 8) = false := beq_eq_false_iff_ne.mpr c403
            have c403b1 : (t507 != 8) = true := bne_iff_ne.mpr c403
            exact absurd H (by simp)
           rw [if_neg c285] at H
           have c285b0 : (t499 == 0) = false := beq_eq_false_iff_ne.mpr c285
           have c285b1 : (t499 != 0) = true := bne_iff_ne.mpr c285
           have HT := Option.some.inj H
           go_wp2
           repeat (go_quiet (fail); try go_wp2)
           go_ret
           exact ⟨by first | rfl | (simp [zk, zj] <;> rfl) | (simp [*, zk, zj] <;> rfl), sB⟩
      rw [if_neg c41] at H
      exact absurd H (by simp)
     rw [if_neg c40] at H
     exact absurd H (by simp)

/-- THE ONE PURE STATEMENT of laws_FnNear: yours. -/
def laws_FnNear.Pure : Prop := ∀ (l0 : List Int) (l1 : List Int), l0.length ≤ maxLen → l0.length * 1 ≤ 140737488351232 → (∀ x ∈ l0, (Lit.int .u8 x).wf = true) → l1.length ≤ maxLen → l1.length * 1 ≤ 140737488351232 → (∀ x ∈ l1, (Lit.int .u8 x).wf = true) → ∃ k, laws_FnNear.f k l0 l1 = some true
theorem laws_FnNear.walk (P : laws_FnNear.Pure) (a0 : Option Addr) (len0 cap0 : Nat) (z0 : List Int) (a1 : Option Addr) (len1 cap1 : Nat) (z1 : List Int) (w : World) (w0 : (a0 = none ∧ len0 = 0 ∧ cap0 = 0 ∧ z0 = []) ∨ ∃ x, a0 = some x ∧ len0 ≤ cap0 ∧ cap0 ≤ maxLen ∧ z0.length = cap0 ∧ (∀ i, i < z0.length → w.cell? (x.add i) = some (.int .u8 (z0.getD i 0))) ∧ ∀ n ∈ z0, (Lit.int .u8 n).wf = true) (y0 : len0 * 1 ≤ 140737488351232) (w1 : (a1 = none ∧ len1 = 0 ∧ cap1 = 0 ∧ z1 = []) ∨ ∃ x, a1 = some x ∧ len1 ≤ cap1 ∧ cap1 ≤ maxLen ∧ z1.length = cap1 ∧ (∀ i, i < z1.length → w.cell? (x.add i) = some (.int .u8 (z1.getD i 0))) ∧ ∀ n ∈ z1, (Lit.int .u8 n).wf = true) (y1 : len1 * 1 ≤ 140737488351232) :
  Calls Try.prog 4 #[.slice a0 len0 cap0, .slice a1 len1 cap1] w fun e w' => e = .returned (.bool true) ∧ Below w.heap.size w w' := by
 obtain ⟨l0, rfl, hr0, hm0, hw0, hc0⟩ := zya.ofRowC w0
 obtain ⟨l1, rfl, hr1, hm1, hw1, hc1⟩ := zya.ofRowC w1
 obtain ⟨k, h⟩ := P l0 l1 hm0 y0 hw0 hm1 y1 hw1
 refine (laws_FnNear.calls k _ _ l0 _ _ l1 w (Kd.C_of_reads (d := (0 : Int)) (h1 := fun _ => rfl) hr0) hc0 (Kd.C_of_reads (d := (0 : Int)) (h1 := fun _ => rfl) hr1) hc1 h).mono ?_
 rintro e w' ⟨rfl, hd⟩
 exact ⟨rfl, hd⟩

end Go.Proofs.Ytmfbcklaomigaaa.N
