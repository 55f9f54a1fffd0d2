-- Written by wip/tools/myprint.py, a program of this session, by way of the kit's print.
import Derived.Test.YtmfbcklaomigaaaNx0
import Derived.Test.YtmfbcklaomigaaaNx8
import Derived.Test.YtmfbcklaomigaaaLPrN
namespace Go.Proofs.Ytmfbcklaomigaaa.N
open Go.RowKit Go.Proofs.YtmfbcklaomigaaaW.PrintWords Go.Proofs.YtmfbcklaomigaaaW.PrintLast Go.Proofs.YtmfbcklaomigaaaW.PrintMore
attribute [local go_sem] zqa zpa zwa zxa zla zka zra zta   -- for this text's walks alone
set_option linter.unusedVariables false
set_option linter.unusedSimpArgs false

/-! ### impl_Word_111_95: function 1111095 -/
def impl_Word_111_95.l0 : Nat → List (S43) → Int → Int → Int → Option (Int)
 | 0, _, _, _, _ => none
 | k + 1, x0, x7, x8, x31000 => if x8 < x7 then (if 0 ≤ x8 then (if x8 < (x0.length : Int) then ((impl_ValidFixed_1.f k ((zx x0 x8).f0) ((zx x0 x8).f1) ((zx x0 x8).f2) ((zx x0 x8).f3) x31000).bind fun t222 => (if t222 = true then (some x8) else (impl_Word_111_95.l0 k x0 x7 (wrap64 (x8 + 1)) x31000))) else (none)) else (none)) else (some (-1))
def impl_Word_111_95.f (k : Nat) (l0 : List (S43)) (a1_0 : Int) : Option (Int) := impl_Word_111_95.l0 k l0 (l0.length : Int) 0 a1_0
set_option maxHeartbeats 8000000 in
set_option maxRecDepth 100000 in
theorem impl_Word_111_95.calls (k : Nat) (A0 : Option Addr) (c0 : Nat) (l0 : List (S43)) (g200 : Nat) (a1_0 : Int) (r : Int) (w : World) (hr0 : Kd.C k43 w A0 l0.length l0) (hc0 : l0.length ≤ c0) (hb30 : w.heap[g200]? = some (.cells #[.int .i64 a1_0] 2 (0, 0))) (h : impl_Word_111_95.f k l0 a1_0 = some r) :
  Calls Try.prog 111 #[.slice A0 l0.length c0, .func (.func 95) #[] #[.pointer (some ⟨g200, 0, none⟩)]] w fun e w' => e = .returned (.int .i64 r) ∧ Below w.heap.size w w' := by
 have hu43 := Try.underlying43
 have HR0 := za.mk hr0
 have HC0 := za.mk hc0
 clear hr0 hc0
 have BK30 := za.mk hb30
 clear hb30
 have HB := za.mk (Below.refl w.heap.size w)
 have H : (impl_Word_111_95.l0 k l0 (l0.length : Int) 0 a1_0) = some r := h
 clear h
 have H' := za.mk H
 clear H
 go_enter Try.func111, Try.ntmps111
 go_wp2
 go_loopg [8] k (fun kq v8 w' => ∃ (x8_1 : Int), v8 = .int .i64 x8_1 ∧ za (impl_Word_111_95.l0 kq l0 (l0.length : Int) x8_1 a1_0 = some r) ∧ za (kq ≤ k) ∧ za (w'.heap[g200]? = some (.cells #[.int .i64 a1_0] 2 (0, 0))) ∧ za (Below w.heap.size w w'))
 case atStart => exact ⟨(0), (by first | rfl | (simp; done) | (simp [*]; done)), H', ⟨Nat.le_refl _⟩, ⟨uK BK30⟩, ⟨sB⟩⟩
 case round =>
  clear H'
  try clear c1
  try clear p2
  obtain ⟨x8_1, rfl, HA, HK1, BK30, HB⟩ := hrel
  cases gk with
  | zero => exact absurd HA.out (by simp [impl_Word_111_95.l0])
  | succ k1 =>
   have H := HA.out
   clear HA
   simp only [impl_Word_111_95.l0] at H
   by_cases c3 : x8_1 < (l0.length : Int)
   ·rw [if_pos c3] at H
    have c3b0 : decide (x8_1 < (l0.length : Int)) = true := decide_eq_true c3
    clear c3
    by_cases c4 : 0 ≤ x8_1
    ·rw [if_pos c4] at H
     have c4b0 : decide (0 ≤ x8_1) = true := decide_eq_true c4
     clear c4
     by_cases c5 : x8_1 < (l0.length : Int)
     ·rw [if_pos c5] at H
      have c5b0 : decide (x8_1 < (l0.length : Int)) = true := decide_eq_true c5
      clear c5
      replace H := Option.bind_eq_some_iff.mp H
      obtain ⟨t222, A60, H⟩ := H
      replace H : (if t222 = true then (some x8_1) else (impl_Word_111_95.l0 k1 l0 (l0.length : Int) (wrap64 (x8_1 + 1)) a1_0)) = some r := H
      have A6 := za.mk A60
      clear A60
      by_cases c7 : t222 = true
      ·subst c7
       have H1 : (some x8_1) = some r := by rw [if_pos rfl] at H; exact H
       clear H
       have H := H1
       clear H1
       obtain rfl := Option.some.inj H
       have p221 : 0 ≤ (x8_1 : Int) := of_decide_eq_true (by first | (with_reducible assumption) | assumption)
       have q221 : x8_1 < (l0.length : Int) := of_decide_eq_true (by first | (with_reducible assumption) | assumption)
       obtain ⟨ad221, e221, hx221_0, hx221_1, hx221_2, hx221_3⟩ := zhd HR0.out x8_1 p221 q221
       cases e221
       replace hx221_0 := (HB.out.cell (World.block_lt_of_cell? w _ hx221_0)).trans hx221_0
       replace hx221_1 := (HB.out.cell (World.block_lt_of_cell? w _ hx221_1)).trans hx221_1
       replace hx221_2 := (HB.out.cell (World.block_lt_of_cell? w _ hx221_2)).trans hx221_2
       replace hx221_3 := (HB.out.cell (World.block_lt_of_cell? w _ hx221_3)).trans hx221_3
       replace p221 := eq_true p221
       replace q221 := eq_true q221
       go_wp2_with (first | (go_at_call 95; (with_reducible refine (impl_ValidFixed_1.calls k1 ((zx l0 x8_1).f0) ((zx l0 x8_1).f1) ((zx l0 x8_1).f2) ((zx l0 x8_1).f3) g200 a1_0 true _ ?side1 A6.out).mono ?_); (case side1 => exact uK BK30); rintro e w8 ⟨rfl, hb⟩; replace BK30 := dK BK30 hb; replace HB := za.mk (ze sB hb); try clear hb))
       go_ret
       exact ⟨by first | rfl | (simp [zk, zj] <;> rfl) | (simp [*, zk, zj] <;> rfl), sB⟩
      replace c7 := Bool.eq_false_iff.mpr c7
      subst c7
      have H1 : (impl_Word_111_95.l0 k1 l0 (l0.length : Int) (wrap64 (x8_1 + 1)) a1_0) = some r := by rw [if_neg (show ¬ (false = true) by decide)] at H; exact H
      clear H
      have H := H1
      clear H1
      have H' := za.mk H
      clear H
      have p221 : 0 ≤ (x8_1 : Int) := of_decide_eq_true (by first | (with_reducible assumption) | assumption)
      have q221 : x8_1 < (l0.length : Int) := of_decide_eq_true (by first | (with_reducible assumption) | assumption)
      obtain ⟨ad221, e221, hx221_0, hx221_1, hx221_2, hx221_3⟩ := zhd HR0.out x8_1 p221 q221
      cases e221
      replace hx221_0 := (HB.out.cell (World.block_lt_of_cell? w _ hx221_0)).trans hx221_0
      replace hx221_1 := (HB.out.cell (World.block_lt_of_cell? w _ hx221_1)).trans hx221_1
      replace hx221_2 := (HB.out.cell (World.block_lt_of_cell? w _ hx221_2)).trans hx221_2
      replace hx221_3 := (HB.out.cell (World.block_lt_of_cell? w _ hx221_3)).trans hx221_3
      replace p221 := eq_true p221
      replace q221 := eq_true q221
      go_wp2_with (first | (go_at_call 95; (with_reducible refine (impl_ValidFixed_1.calls k1 ((zx l0 x8_1).f0) ((zx l0 x8_1).f1) ((zx l0 x8_1).f2) ((zx l0 x8_1).f3) g200 a1_0 false _ ?side1 A6.out).mono ?_); (case side1 => exact uK BK30); rintro e w9 ⟨rfl, hb⟩; replace BK30 := dK BK30 hb; replace HB := za.mk (ze sB hb); try clear hb))
      go_roundg k1
      case measure => have := HK1.out; omega
      case rel => exact ⟨(wrap64 (x8_1 + 1)), (by first | rfl | (simp; done) | (simp [*]; done)), H', ⟨by have := HK1.out; omega⟩, ⟨uK BK30⟩, ⟨sB⟩⟩
     rw [if_neg c5] at H
     exact absurd H (by simp)
    rw [if_neg c4] at H
    exact absurd H (by simp)
   rw [if_neg c3] at H
   have c3b0 : decide (x8_1 < (l0.length : Int)) = false := decide_eq_false c3
   clear c3
   obtain rfl := Option.some.inj H
   go_wp2
   go_ret
   exact ⟨by first | rfl | (simp [zk, zj] <;> rfl) | (simp [*, zk, zj] <;> rfl), sB⟩

/-! ### impl_Word_94_95: function 1094095 -/
def impl_Word_94_95.f (k : Nat) (l0 : List (S43)) (a1_0 : Int) : Option (Bool) := (impl_Word_111_95.f k l0 a1_0).bind fun t223 => (some (decide (t223 ≥ 0)))
set_option maxHeartbeats 8000000 in
set_option maxRecDepth 100000 in
theorem impl_Word_94_95.calls (k : Nat) (A0 : Option Addr) (c0 : Nat) (l0 : List (S43)) (g200 : Nat) (a1_0 : Int) (r : Bool) (w : World) (hr0 : Kd.C k43 w A0 l0.length l0) (hc0 : l0.length ≤ c0) (hb30 : w.heap[g200]? = some (.cells #[.int .i64 a1_0] 2 (0, 0))) (h : impl_Word_94_95.f k l0 a1_0 = some r) :
  Calls Try.prog 94 #[.slice A0 l0.length c0, .func (.func 95) #[] #[.pointer (some ⟨g200, 0, none⟩)]] w fun e w' => e = .returned (.bool r) ∧ Below w.heap.size w w' := by
 have HR0 := za.mk hr0
 have HC0 := za.mk hc0
 clear hr0 hc0
 have BK30 := za.mk hb30
 clear hb30
 have HB := za.mk (Below.refl w.heap.size w)
 have H : ((impl_Word_111_95.f k l0 a1_0).bind fun t223 => (some (decide (t223 ≥ 0)))) = some r := h
 clear h
 replace H := Option.bind_eq_some_iff.mp H
 obtain ⟨t223, A30, H⟩ := H
 replace H : (some (decide (t223 ≥ 0))) = some r := H
 have A3 := za.mk A30
 clear A30
 obtain rfl := Option.some.inj H
 go_enter Try.func94, Try.ntmps94
 go_wp2_with (first | ((with_reducible refine zo (f := 111) rfl ?_); refine gz (some 7) Try.func111 #[.slice A0 l0.length c0, .func (.func 95) #[] #[.pointer (some ⟨g200, 0, none⟩)]] rfl rfl ?_; (with_reducible refine (impl_Word_111_95.calls k _ _ l0 g200 a1_0 t223 _ ?side1 ?side2 ?side3 A3.out).mono ?_); (case side1 => repeat (first | exact HR0.out | (with_reducible refine Kd.C_alloc ?_ _) | (with_reducible refine Kd.C_drewN ?_ _) | (with_reducible refine Kd.C_drew ?_))); (case side2 => exact HC0.out); (case side3 => exact uK BK30); rintro e w4 ⟨rfl, hb⟩; refine ⟨_, rfl, ?_⟩; replace BK30 := dK BK30 hb; replace HB := za.mk (ze sB hb); try clear hb))
 go_ret
 exact ⟨by first | rfl | (simp [zk, zj] <;> rfl) | (simp [*, zk, zj] <;> rfl), sB⟩

/-! ### impl_ValidFixed: function 56 -/
def impl_ValidFixed.f (k : Nat) (a0_0 : Int) (a0_1 : Int) (l0_2 : List (S43)) : Option (Bool) := (impl_areLetters.f (wrap64 (a0_0))).bind fun t226 => (if t226 = true then ((impl_isKind.f (wrap64 (a0_1))).bind fun t227 => (if t227 = true then ((impl_Word_46.f l0_2).bind fun t228 => ((impl_within.f t228 1 80).bind fun t229 => (if t229 = true then ((impl_Word_94_95.f k l0_2 (wrap64 (a0_0))).bind fun t230 => (some (!t230))) else (some false)))) else (some false))) else (some false))
set_option maxHeartbeats 8000000 in
set_option maxRecDepth 100000 in
theorem impl_ValidFixed.calls (k : Nat) (a0_0 : Int) (a0_1 : Int) (A0_2 : Option Addr) (c0_2 : Nat) (l0_2 : List (S43)) (r : Bool) (w : World) (hr0_2 : Kd.C k43 w A0_2 l0_2.length l0_2) (hc0_2 : l0_2.length ≤ c0_2) (h : impl_ValidFixed.f k a0_0 a0_1 l0_2 = some r) :
  Calls Try.prog 56 #[.agg #[.int .i8 a0_0, .int .i8 a0_1, .slice A0_2 l0_2.length c0_2]] w fun e w' => e = .returned (.bool r) ∧ Below w.heap.size w w' := by
 have hu28 := Try.underlying28
 have HR0_2 := za.mk hr0_2
 have HC0_2 := za.mk hc0_2
 clear hr0_2 hc0_2
 have HB := za.mk (Below.refl w.heap.size w)
 have H : ((impl_areLetters.f (wrap64 (a0_0))).bind fun t226 => (if t226 = true then ((impl_isKind.f (wrap64 (a0_1))).bind fun t227 => (if t227 = true then ((impl_Word_46.f l0_2).bind fun t228 => ((impl_within.f t228 1 80).bind fun t229 => (if t229 = true then ((impl_Word_94_95.f k l0_2 (wrap64 (a0_0))).bind fun t230 => (some (!t230))) else (some false)))) else (some false))) else (some false))) = some r := h
 clear h
 replace H := Option.bind_eq_some_iff.mp H
 obtain ⟨t226, A20, H⟩ := H
 replace H : (if t226 = true then ((impl_isKind.f (wrap64 (a0_1))).bind fun t227 => (if t227 = true then ((impl_Word_46.f l0_2).bind fun t228 => ((impl_within.f t228 1 80).bind fun t229 => (if t229 = true then ((impl_Word_94_95.f k l0_2 (wrap64 (a0_0))).bind fun t230 => (some (!t230))) else (some false)))) else (some false))) else (some false)) = some r := H
 have A2 := za.mk A20
 clear A20
 by_cases c3 : t226 = true
 ·subst c3
  have H1 : ((impl_isKind.f (wrap64 (a0_1))).bind fun t227 => (if t227 = true then ((impl_Word_46.f l0_2).bind fun t228 => ((impl_within.f t228 1 80).bind fun t229 => (if t229 = true then ((impl_Word_94_95.f k l0_2 (wrap64 (a0_0))).bind fun t230 => (some (!t230))) else (some false)))) else (some false))) = some r := by rw [if_pos rfl] at H; exact H
  clear H
  have H := H1
  clear H1
  replace H := Option.bind_eq_some_iff.mp H
  obtain ⟨t227, A40, H⟩ := H
  replace H : (if t227 = true then ((impl_Word_46.f l0_2).bind fun t228 => ((impl_within.f t228 1 80).bind fun t229 => (if t229 = true then ((impl_Word_94_95.f k l0_2 (wrap64 (a0_0))).bind fun t230 => (some (!t230))) else (some false)))) else (some false)) = some r := H
  have A4 := za.mk A40
  clear A40
  by_cases c5 : t227 = true
  ·subst c5
   have H1 : ((impl_Word_46.f l0_2).bind fun t228 => ((impl_within.f t228 1 80).bind fun t229 => (if t229 = true then ((impl_Word_94_95.f k l0_2 (wrap64 (a0_0))).bind fun t230 => (some (!t230))) else (some false)))) = some r := by rw [if_pos rfl] at H; exact H
   clear H
   have H := H1
   clear H1
   replace H := Option.bind_eq_some_iff.mp H
   obtain ⟨t228, A60, H⟩ := H
   replace H : ((impl_within.f t228 1 80).bind fun t229 => (if t229 = true then ((impl_Word_94_95.f k l0_2 (wrap64 (a0_0))).bind fun t230 => (some (!t230))) else (some false))) = some r := H
   have A6 := za.mk A60
   clear A60
   replace H := Option.bind_eq_some_iff.mp H
   obtain ⟨t229, A70, H⟩ := H
   replace H : (if t229 = true then ((impl_Word_94_95.f k l0_2 (wrap64 (a0_0))).bind fun t230 => (some (!t230))) else (some false)) = some r := H
   have A7 := za.mk A70
   clear A70
   by_cases c8 : t229 = true
   ·subst c8
    have H1 : ((impl_Word_94_95.f k l0_2 (wrap64 (a0_0))).bind fun t230 => (some (!t230))) = some r := by rw [if_pos rfl] at H; exact H
    clear H
    have H := H1
    clear H1
    replace H := Option.bind_eq_some_iff.mp H
    obtain ⟨t230, A90, H⟩ := H
    replace H : (some (!t230)) = some r := H
    have A9 := za.mk A90
    clear A90
    obtain rfl := Option.some.inj H
    go_enter Try.func56, Try.ntmps56
    go_wp2_with (first | ((with_reducible refine zn (N := 1) rfl ?_); refine bx (N := 1) #[.int .i8 a0_0, .int .i8 a0_1, .slice A0_2 l0_2.length c0_2] 28 rfl ?_; intro gb224 hg w10 hbox hb; have BK224 := za.mk hbox; have GW224 := gB hg; have GE224 := GW224; replace HB := za.mk (ze sB hb); clear hb hbox hg; obtain ⟨hcz11_0, hcz11_1, hcz11_2⟩ := xc3 BK224; obtain ⟨hfz11_0, hfz11_1, hfz11_2⟩ := xf3 BK224) | ((with_reducible refine zn (N := 3) rfl ?_); refine bx (N := 3) #[.int .i64 0] 2 rfl ?_; intro gb225 hg w12 hbox hb; have BK225 := za.mk hbox; have GW225 := gB hg; have GE225 := GW225; have NB224_225 := nK hg BK224; have NB225_224 := za.mk NB224_225.out.symm; replace BK224 := dK BK224 hb; replace HB := za.mk (ze sB hb); clear hb hbox hg; have hnb13 := NB225_224.out; have hnc13 := NB224_225.out; have hcz14_0 := xc1 BK225; have hfz14_0 := xf1 BK225) | ((with_reducible refine zo (f := 41) rfl ?_); refine gz (some 8) Try.func41 #[.int .i64 (wrap64 (a0_0))] rfl rfl ?_; (with_reducible refine (impl_areLetters.calls (wrap64 (a0_0)) true _ A2.out).mono ?_); rintro e w' ⟨rfl, ⟨nd, rfl⟩⟩; refine ⟨_, rfl, ?_⟩; obtain ⟨hcz15_0, hcz15_1, hcz15_2⟩ := xc3 BK224; obtain ⟨hfz15_0, hfz15_1, hfz15_2⟩ := xf3 BK224) | (go_at_call 42; (with_reducible refine (impl_isKind.calls (wrap64 (a0_1)) true _ A4.out).mono ?_); rintro e w' ⟨rfl, ⟨nd, rfl⟩⟩) | (go_at_call 46; (with_reducible refine (impl_Word_46.calls _ _ l0_2 t228 _ ?side1 ?side2 A6.out).mono ?_); (case side1 => exact Kd.C_below HR0_2.out sB); (case side2 => exact HC0_2.out); rintro e w' ⟨rfl, ⟨nd, rfl⟩⟩) | (go_at_call 43; (with_reducible refine (impl_within.calls t228 1 80 true _ A7.out).mono ?_); rintro e w' ⟨rfl, ⟨nd, rfl⟩⟩) | (go_at_call 94; (with_reducible refine (impl_Word_94_95.calls k _ _ l0_2 gb225 (wrap64 (a0_0)) t230 _ ?side1 ?side2 ?side3 A9.out).mono ?_); (case side1 => exact Kd.C_below HR0_2.out sB); (case side2 => exact HC0_2.out); (case side3 => (with_reducible repeat (first | refine zc ?_ _ | refine zd ?_ | refine zb ?_ _)); refine zl (cs := #[.int .i64 0]) ?_ 0 _ rfl; (with_reducible repeat (first | refine zc ?_ _ | refine zd ?_ | refine zb ?_ _)); exact BK225.out); rintro e w16 ⟨rfl, hb⟩; have n0_ := za.mk (zr (g := gb224) (o := .cells #[.int .i8 a0_0, .int .i8 a0_1, .slice A0_2 l0_2.length c0_2] 28 (0, 0)) (by (with_reducible repeat (first | refine zc ?_ _ | refine zd ?_ | refine zb ?_ _)); refine zm ?_ NB224_225.out _; (with_reducible repeat (first | refine zc ?_ _ | refine zd ?_ | refine zb ?_ _)); exact BK224.out) hb); have n1_ := za.mk (zr (g := gb225) (o := .cells #[.int .i64 (wrap64 (a0_0))] 2 (0, 0)) (by (with_reducible repeat (first | refine zc ?_ _ | refine zd ?_ | refine zb ?_ _)); refine zl (cs := #[.int .i64 0]) ?_ 0 _ rfl; (with_reducible repeat (first | refine zc ?_ _ | refine zd ?_ | refine zb ?_ _)); exact BK225.out) hb); have n2_ := za.mk (ze sB hb); clear BK224; clear BK225; clear HB; have BK224 := n0_; have BK225 := n1_; have HB := n2_; clear n0_ n1_ n2_; try clear hb))
    go_ret
    exact ⟨by first | rfl | (simp [zk, zj] <;> rfl) | (simp [*, zk, zj] <;> rfl), sB⟩
   replace c8 := Bool.eq_false_iff.mpr c8
   subst c8
   have H1 : (some false) = some r := by rw [if_neg (show ¬ (false = true) by decide)] at H; exact H
   clear H
   have H := H1
   clear H1
   obtain rfl := Option.some.inj H
   go_enter Try.func56, Try.ntmps56
   go_wp2_with (first | ((with_reducible refine zn (N := 1) rfl ?_); refine bx (N := 1) #[.int .i8 a0_0, .int .i8 a0_1, .slice A0_2 l0_2.length c0_2] 28 rfl ?_; intro gb224 hg w17 hbox hb; have BK224 := za.mk hbox; have GW224 := gB hg; have GE224 := GW224; replace HB := za.mk (ze sB hb); clear hb hbox hg; obtain ⟨hcz18_0, hcz18_1, hcz18_2⟩ := xc3 BK224; obtain ⟨hfz18_0, hfz18_1, hfz18_2⟩ := xf3 BK224) | ((with_reducible refine zn (N := 3) rfl ?_); refine bx (N := 3) #[.int .i64 0] 2 rfl ?_; intro gb225 hg w19 hbox hb; have BK225 := za.mk hbox; have GW225 := gB hg; have GE225 := GW225; have NB224_225 := nK hg BK224; have NB225_224 := za.mk NB224_225.out.symm; replace BK224 := dK BK224 hb; replace HB := za.mk (ze sB hb); clear hb hbox hg; have hnb20 := NB225_224.out; have hnc20 := NB224_225.out; have hcz21_0 := xc1 BK225; have hfz21_0 := xf1 BK225) | ((with_reducible refine zo (f := 41) rfl ?_); refine gz (some 8) Try.func41 #[.int .i64 (wrap64 (a0_0))] rfl rfl ?_; (with_reducible refine (impl_areLetters.calls (wrap64 (a0_0)) true _ A2.out).mono ?_); rintro e w' ⟨rfl, ⟨nd, rfl⟩⟩; refine ⟨_, rfl, ?_⟩; obtain ⟨hcz22_0, hcz22_1, hcz22_2⟩ := xc3 BK224; obtain ⟨hfz22_0, hfz22_1, hfz22_2⟩ := xf3 BK224) | (go_at_call 42; (with_reducible refine (impl_isKind.calls (wrap64 (a0_1)) true _ A4.out).mono ?_); rintro e w' ⟨rfl, ⟨nd, rfl⟩⟩) | (go_at_call 46; (with_reducible refine (impl_Word_46.calls _ _ l0_2 t228 _ ?side1 ?side2 A6.out).mono ?_); (case side1 => exact Kd.C_below HR0_2.out sB); (case side2 => exact HC0_2.out); rintro e w' ⟨rfl, ⟨nd, rfl⟩⟩) | (go_at_call 43; (with_reducible refine (impl_within.calls t228 1 80 false _ A7.out).mono ?_); rintro e w' ⟨rfl, ⟨nd, rfl⟩⟩))
   go_ret
   exact ⟨by first | rfl | (simp [zk, zj] <;> rfl) | (simp [*, zk, zj] <;> rfl), sB⟩
  replace c5 := Bool.eq_false_iff.mpr c5
  subst c5
  have H1 : (some false) = some r := by rw [if_neg (show ¬ (false = true) by decide)] at H; exact H
  clear H
  have H := H1
  clear H1
  obtain rfl := Option.some.inj H
  go_enter Try.func56, Try.ntmps56
  go_wp2_with (first | ((with_reducible refine zn (N := 1) rfl ?_); refine bx (N := 1) #[.int .i8 a0_0, .int .i8 a0_1, .slice A0_2 l0_2.length c0_2] 28 rfl ?_; intro gb224 hg w23 hbox hb; have BK224 := za.mk hbox; have GW224 := gB hg; have GE224 := GW224; replace HB := za.mk (ze sB hb); clear hb hbox hg; obtain ⟨hcz24_0, hcz24_1, hcz24_2⟩ := xc3 BK224; obtain ⟨hfz24_0, hfz24_1, hfz24_2⟩ := xf3 BK224) | ((with_reducible refine zn (N := 3) rfl ?_); refine bx (N := 3) #[.int .i64 0] 2 rfl ?_; intro gb225 hg w25 hbox hb; have BK225 := za.mk hbox; have GW225 := gB hg; have GE225 := GW225; have NB224_225 := nK hg BK224; have NB225_224 := za.mk NB224_225.out.symm; replace BK224 := dK BK224 hb; replace HB := za.mk (ze sB hb); clear hb hbox hg; have hnb26 := NB225_224.out; have hnc26 := NB224_225.out; have hcz27_0 := xc1 BK225; have hfz27_0 := xf1 BK225) | ((with_reducible refine zo (f := 41) rfl ?_); refine gz (some 8) Try.func41 #[.int .i64 (wrap64 (a0_0))] rfl rfl ?_; (with_reducible refine (impl_areLetters.calls (wrap64 (a0_0)) true _ A2.out).mono ?_); rintro e w' ⟨rfl, ⟨nd, rfl⟩⟩; refine ⟨_, rfl, ?_⟩; obtain ⟨hcz28_0, hcz28_1, hcz28_2⟩ := xc3 BK224; obtain ⟨hfz28_0, hfz28_1, hfz28_2⟩ := xf3 BK224) | (go_at_call 42; (with_reducible refine (impl_isKind.calls (wrap64 (a0_1)) false _ A4.out).mono ?_); rintro e w' ⟨rfl, ⟨nd, rfl⟩⟩))
  go_ret
  exact ⟨by first | rfl | (simp [zk, zj] <;> rfl) | (simp [*, zk, zj] <;> rfl), sB⟩
 replace c3 := Bool.eq_false_iff.mpr c3
 subst c3
 have H1 : (some false) = some r := by rw [if_neg (show ¬ (false = true) by decide)] at H; exact H
 clear H
 have H := H1
 clear H1
 obtain rfl := Option.some.inj H
 go_enter Try.func56, Try.ntmps56
 go_wp2_with (first | ((with_reducible refine zn (N := 1) rfl ?_); refine bx (N := 1) #[.int .i8 a0_0, .int .i8 a0_1, .slice A0_2 l0_2.length c0_2] 28 rfl ?_; intro gb224 hg w29 hbox hb; have BK224 := za.mk hbox; have GW224 := gB hg; have GE224 := GW224; replace HB := za.mk (ze sB hb); clear hb hbox hg; obtain ⟨hcz30_0, hcz30_1, hcz30_2⟩ := xc3 BK224; obtain ⟨hfz30_0, hfz30_1, hfz30_2⟩ := xf3 BK224) | ((with_reducible refine zn (N := 3) rfl ?_); refine bx (N := 3) #[.int .i64 0] 2 rfl ?_; intro gb225 hg w31 hbox hb; have BK225 := za.mk hbox; have GW225 := gB hg; have GE225 := GW225; have NB224_225 := nK hg BK224; have NB225_224 := za.mk NB224_225.out.symm; replace BK224 := dK BK224 hb; replace HB := za.mk (ze sB hb); clear hb hbox hg; have hnb32 := NB225_224.out; have hnc32 := NB224_225.out; have hcz33_0 := xc1 BK225; have hfz33_0 := xf1 BK225) | ((with_reducible refine zo (f := 41) rfl ?_); refine gz (some 8) Try.func41 #[.int .i64 (wrap64 (a0_0))] rfl rfl ?_; (with_reducible refine (impl_areLetters.calls (wrap64 (a0_0)) false _ A2.out).mono ?_); rintro e w' ⟨rfl, ⟨nd, rfl⟩⟩; refine ⟨_, rfl, ?_⟩))
 go_ret
 exact ⟨by first | rfl | (simp [zk, zj] <;> rfl) | (simp [*, zk, zj] <;> rfl), sB⟩

end Go.Proofs.Ytmfbcklaomigaaa.N
