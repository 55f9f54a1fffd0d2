/- The program's WayTo. -/
import Derived.Test.YteciomagemjjaaaLWayJ
import Derived.Test.YteciomagemjjaaaLVwJ
import Derived.Test.YteciomagemjjaaaLPrJ
namespace Go.Proofs.Yteciomagemjjaaa.J
open Go.RowKit Go.Proofs.YteciomagemjjaaaW.PrintWords Go.Proofs.YteciomagemjjaaaW.PrintLast Go.Proofs.YteciomagemjjaaaW.PrintMore
attribute [local go_sem] zma zna zxa zwa zia zja zoa zpa   -- for this text's walks alone
set_option linter.unusedVariables false
set_option linter.unusedSimpArgs false
attribute [local go_sem high] eqA27
/-! ### impl_WayTo_1: function 66 -/
def impl_WayTo_1.f (a0_0 : Int) (a0_1 : Int) (a0_2 : Int) (a0_3 : Int) (a1_0 : Int) (a1_1 : Int) (a1_2 : Int) (a1_3 : Int) : Option (Bool) := some (a0_0 == a1_0 && (a0_1 == a1_1 && (a0_2 == a1_2 && (a0_3 == a1_3))))
set_option maxHeartbeats 8000000 in
set_option maxRecDepth 100000 in
theorem impl_WayTo_1.calls (a0_0 : Int) (a0_1 : Int) (a0_2 : Int) (a0_3 : Int) (g1 : Nat) (a1_0 : Int) (a1_1 : Int) (a1_2 : Int) (a1_3 : Int) (r : Bool) (w : World) (hb1 : w.heap[g1]? = some (.cells #[.int .i16 a1_0, .int .i16 a1_1, .int .i16 a1_2, .int .i16 a1_3] 27 (0, 0))) (h : impl_WayTo_1.f a0_0 a0_1 a0_2 a0_3 a1_0 a1_1 a1_2 a1_3 = some r) :
  Calls Try.prog 66 #[.agg #[.int .i16 a0_0, .int .i16 a0_1, .int .i16 a0_2, .int .i16 a0_3], .pointer (some ⟨g1, 0, none⟩)] w fun e w' => e = .returned (.bool r) ∧ Below w.heap.size w w' := by
 have hu27 := Try.underlying27
 have BK1 := zb.mk hb1
 clear hb1
 have HB := zb.mk (Below.refl w.heap.size w)
 have H : (some (a0_0 == a1_0 && (a0_1 == a1_1 && (a0_2 == a1_2 && (a0_3 == a1_3))))) = some r := h
 clear h
 obtain rfl := Option.some.inj H
 go_enter Try.func66, Try.ntmps66
 go_wp2_with (first | ((with_reducible refine zy (N := 2) rfl ?_); refine bx (N := 2) #[.int .i16 a0_0, .int .i16 a0_1, .int .i16 a0_2, .int .i16 a0_3] 27 rfl ?_; intro gb174 hg w3 hbox hb; have BK174 := zb.mk hbox; have GW174 := gB hg; have GE174 := GW174; have NB1_174 := zb.mk ((by rw [hg]; exact Nat.ne_of_lt (zha (g := g1) (o := .cells #[.int .i16 a1_0, .int .i16 a1_1, .int .i16 a1_2, .int .i16 a1_3] 27 (0, 0)) (uK BK1)) : g1 ≠ gb174)); have NB174_1 := zb.mk ((by rw [hg]; exact Nat.ne_of_gt (zha (g := g1) (o := .cells #[.int .i16 a1_0, .int .i16 a1_1, .int .i16 a1_2, .int .i16 a1_3] 27 (0, 0)) (uK BK1)) : gb174 ≠ g1)); replace BK1 := zb.mk (zr (g := g1) (o := .cells #[.int .i16 a1_0, .int .i16 a1_1, .int .i16 a1_2, .int .i16 a1_3] 27 (0, 0)) (uK BK1) hb); replace HB := zb.mk (zm sB hb); clear hb hbox hg; have hnb4 := NB174_1.out; have hnc4 := NB1_174.out; obtain ⟨hcz5_0, hcz5_1, hcz5_2, hcz5_3⟩ := xc4 BK174; obtain ⟨hfz5_0, hfz5_1, hfz5_2, hfz5_3⟩ := xf4 BK174; obtain ⟨hcz6_0, hcz6_1, hcz6_2, hcz6_3⟩ := xc4 BK1; obtain ⟨hfz6_0, hfz6_1, hfz6_2, hfz6_3⟩ := xf4 BK1))
 go_ret
 exact ⟨by first | rfl | (simp [zn, zo] <;> rfl) | (simp [*, zn, zo] <;> rfl), sB⟩

def eqW (x y : S27) : Bool := x.f0 == y.f0 && (x.f1 == y.f1 && (x.f2 == y.f2 && (x.f3 == y.f3)))
set_option maxHeartbeats 8000000 in
set_option maxRecDepth 100000 in
theorem lit66 (g3 gw : Nat) (y0 y1 y2 y3 : Int) (w : World) (h3 : w.heap[g3]? = some (.cells #[.func (.func 66) #[] #[.pointer (some ⟨gw, 0, none⟩)]] 97 (0, 0))) (hw : w.heap[gw]? = some (.cells #[.int .i16 y0, .int .i16 y1, .int .i16 y2, .int .i16 y3] 27 (0, 0))) : Tells (fun x => eqW x ⟨y0, y1, y2, y3⟩) g3 w := by
  intro x W hB
  have k3 := zr h3 hB
  have hc3 : W.cell? ⟨g3, 0, none⟩ = some (.func (.func 66) #[] #[.pointer (some ⟨gw, 0, none⟩)]) := (za k3 0).trans rfl
  have KW := zb.mk (zr hw hB)
  have K3 := zb.mk k3
  clear k3 h3 hw hB
  unfold v82
  have hu82 := Try.underlying82
  go_enter Try.func99, Try.ntmps99
  go_wp2_with (first
    | ((with_reducible refine zy (N := 2) rfl ?_); refine bx (N := 2) #[.int .i16 x.f0.f0, .int .i16 x.f0.f1, .int .i16 x.f0.f2, .int .i16 x.f0.f3, .int .i64 x.f1, .int .i8 x.f2.f0, .int .i8 x.f2.f1, .int .i8 x.f2.f2, .int .i64 x.f3] 82 rfl ?_; intro g2 hg w1 hbox hb
       have c3 : w1.cell? ⟨g3, 0, none⟩ = some (.func (.func 66) #[] #[.pointer (some ⟨gw, 0, none⟩)]) := (za (zr K3.out hb) 0).trans rfl
       have b0 : w1.cell? ⟨g2, 0, none⟩ = some (.int .i16 x.f0.f0) := (za hbox 0).trans rfl
       have b1 : w1.cell? ⟨g2, 1, none⟩ = some (.int .i16 x.f0.f1) := (za hbox 1).trans rfl
       have b2 : w1.cell? ⟨g2, 2, none⟩ = some (.int .i16 x.f0.f2) := (za hbox 2).trans rfl
       have b3 : w1.cell? ⟨g2, 3, none⟩ = some (.int .i16 x.f0.f3) := (za hbox 3).trans rfl
       have KW1 := zb.mk (zr KW.out hb)
       have HB1 := zb.mk hb
       clear hg hb hbox hc3)
    | (go_at_call 66
       (with_reducible refine (impl_WayTo_1.calls x.f0.f0 x.f0.f1 x.f0.f2 x.f0.f3 gw y0 y1 y2 y3 (eqW x.f0 ⟨y0, y1, y2, y3⟩) _ (uK KW1) rfl).mono ?_)
       rintro e w2 ⟨rfl, hb2⟩))
  go_ret
  exact ⟨rfl, zm (by repeat (first | exact HB1.out | apply zj | apply zf | apply zi)) hb2⟩
/-! ### impl_WayTo: function 19 -/
def impl_WayTo.f (k : Nat) (l0_0 : List Int) (a0_1 : Int) (a0_2 : Int) (a0_3 : Int) (a0_4 : Int) (a0_5 : Bool) (a1_0 : Int) (a1_1 : Int) (a1_2 : Int) (a1_3 : Int) : Option ((List (S80)) × Int) := (impl_ValidWater.f k l0_0 a0_1 a0_2 a0_3 a0_4 a0_5 a1_0 a1_1 a1_2 a1_3).bind fun t177 => (if t177 = true then ((impl_Puzzle_wayTo.f k l0_0 a0_1 a0_2 a0_3 a0_4 a0_5 (fun x => eqW x ⟨a1_0, a1_1, a1_2, a1_3⟩)).bind fun bt178 => (some (bt178.1, bt178.2))) else (some (([] : List (S80)), 1)))
set_option maxHeartbeats 8000000 in
set_option maxRecDepth 100000 in
theorem impl_WayTo.calls (k : Nat) (A0_0 : Option Addr) (c0_0 : Nat) (l0_0 : List Int) (a0_1 : Int) (a0_2 : Int) (a0_3 : Int) (a0_4 : Int) (a0_5 : Bool) (a1_0 : Int) (a1_1 : Int) (a1_2 : Int) (a1_3 : Int) (r1 : List (S80)) (r2 : Int) (w : World) (hr0_0 : Kd.C (Kd.int .i16) w A0_0 l0_0.length l0_0) (hc0_0 : l0_0.length ≤ c0_0) (h : impl_WayTo.f k l0_0 a0_1 a0_2 a0_3 a0_4 a0_5 a1_0 a1_1 a1_2 a1_3 = some (r1, r2)) :
  Calls Try.prog 19 #[.agg #[.slice A0_0 l0_0.length c0_0, .int .i16 a0_1, .int .i16 a0_2, .int .i16 a0_3, .int .i16 a0_4, .bool a0_5], .agg #[.int .i16 a1_0, .int .i16 a1_1, .int .i16 a1_2, .int .i16 a1_3]] w fun e w' => ∃ v0_ : Value, e = .returned (.tuple #[v0_, .int .i64 r2]) ∧ Kd.R k80 80 w' w.heap.size (fun _ => True) v0_ r1 ∧ Below w.heap.size w w' := by
 have hu29 := Try.underlying29
 have hu27 := Try.underlying27
 have HR0_0 := zb.mk hr0_0
 have HC0_0 := zb.mk hc0_0
 clear hr0_0 hc0_0
 have HB := zb.mk (Below.refl w.heap.size w)
 have H : ((impl_ValidWater.f k l0_0 a0_1 a0_2 a0_3 a0_4 a0_5 a1_0 a1_1 a1_2 a1_3).bind fun t177 => (if t177 = true then ((impl_Puzzle_wayTo.f k l0_0 a0_1 a0_2 a0_3 a0_4 a0_5 (fun x => eqW x ⟨a1_0, a1_1, a1_2, a1_3⟩)).bind fun bt178 => (some (bt178.1, bt178.2))) else (some (([] : List (S80)), 1)))) = some (r1, r2) := h
 clear h
 replace H := Option.bind_eq_some_iff.mp H
 obtain ⟨t177, A30, H⟩ := H
 replace H : (if t177 = true then ((impl_Puzzle_wayTo.f k l0_0 a0_1 a0_2 a0_3 a0_4 a0_5 (fun x => eqW x ⟨a1_0, a1_1, a1_2, a1_3⟩)).bind fun bt178 => (some (bt178.1, bt178.2))) else (some (([] : List (S80)), 1))) = some (r1, r2) := H
 have A3 := zb.mk A30
 clear A30
 by_cases c4 : t177 = true
 ·subst c4
  have H1 : ((impl_Puzzle_wayTo.f k l0_0 a0_1 a0_2 a0_3 a0_4 a0_5 (fun x => eqW x ⟨a1_0, a1_1, a1_2, a1_3⟩)).bind fun bt178 => (some (bt178.1, bt178.2))) = some (r1, r2) := by rw [if_pos rfl] at H; exact H
  clear H
  have H := H1
  clear H1
  replace H := Option.bind_eq_some_iff.mp H
  obtain ⟨⟨t178, t181⟩, A50, H⟩ := H
  replace H : (some (t178, t181)) = some (r1, r2) := H
  have A5 := zb.mk A50
  clear A50
  simp only [Option.some.injEq, Prod.mk.injEq] at H
  obtain ⟨rfl, rfl⟩ := H
  go_enter Try.func19, Try.ntmps19
  go_wp2_with (first | ((with_reducible refine zy (N := 2) rfl ?_); refine bx (N := 2) #[.slice A0_0 l0_0.length c0_0, .int .i16 a0_1, .int .i16 a0_2, .int .i16 a0_3, .int .i16 a0_4, .bool a0_5] 29 rfl ?_; intro gb175 hg w6 hbox hb; have BK175 := zb.mk hbox; have GW175 := gB hg; have GE175 := GW175; replace HB := zb.mk (zm sB hb); clear hb hbox hg) | ((with_reducible refine zy (N := 3) rfl ?_); refine bx (N := 3) #[.int .i16 a1_0, .int .i16 a1_1, .int .i16 a1_2, .int .i16 a1_3] 27 rfl ?_; intro gb176 hg w7 hbox hb; have BK176 := zb.mk hbox; have GW176 := gB hg; have GE176 := GW176; have NB175_176 := nK hg BK175; have NB176_175 := zb.mk NB175_176.out.symm; replace BK175 := dK BK175 hb; replace HB := zb.mk (zm sB hb); clear hb hbox hg; have hnb8 := NB175_176.out; have hnc8 := NB176_175.out; obtain ⟨hcz9_0, hcz9_1, hcz9_2, hcz9_3, hcz9_4, hcz9_5⟩ := xc6 BK175; obtain ⟨hfz9_0, hfz9_1, hfz9_2, hfz9_3, hfz9_4, hfz9_5⟩ := xf6 BK175; obtain ⟨hcz10_0, hcz10_1, hcz10_2, hcz10_3⟩ := xc4 BK176; obtain ⟨hfz10_0, hfz10_1, hfz10_2, hfz10_3⟩ := xf4 BK176) | ((with_reducible refine zt (f := 64) rfl ?_); refine gz (some 8) Try.func64 #[.agg #[.slice A0_0 l0_0.length c0_0, .int .i16 a0_1, .int .i16 a0_2, .int .i16 a0_3, .int .i16 a0_4, .bool a0_5], .agg #[.int .i16 a1_0, .int .i16 a1_1, .int .i16 a1_2, .int .i16 a1_3]] rfl rfl ?_; (with_reducible refine (impl_ValidWater.calls k _ _ l0_0 a0_1 a0_2 a0_3 a0_4 a0_5 a1_0 a1_1 a1_2 a1_3 true _ ?side1 ?side2 A3.out).mono ?_); (case side1 => exact uC HR0_0 HB); (case side2 => exact HC0_0.out); rintro e w11 ⟨rfl, hb⟩; refine ⟨_, rfl, ?_⟩; replace BK175 := dK BK175 hb; replace BK176 := dK BK176 hb; replace HB := zb.mk (zm sB hb); try clear hb; obtain ⟨hcz12_0, hcz12_1, hcz12_2, hcz12_3, hcz12_4, hcz12_5⟩ := xc6 BK175; obtain ⟨hfz12_0, hfz12_1, hfz12_2, hfz12_3, hfz12_4, hfz12_5⟩ := xf6 BK175; obtain ⟨hcz13_0, hcz13_1, hcz13_2, hcz13_3⟩ := xc4 BK176; obtain ⟨hfz13_0, hfz13_1, hfz13_2, hfz13_3⟩ := xf4 BK176) | ((with_reducible refine zt (f := 65) rfl ?_); refine gz (some 12) Try.func65 #[.agg #[.slice A0_0 l0_0.length c0_0, .int .i16 a0_1, .int .i16 a0_2, .int .i16 a0_3, .int .i16 a0_4, .bool a0_5], .func (.func 66) #[] #[.pointer (some ⟨gb176, 0, none⟩)]] rfl rfl ?_; (with_reducible refine (impl_Puzzle_wayTo.calls k _ _ l0_0 a0_1 a0_2 a0_3 a0_4 a0_5 (fun x => eqW x ⟨a1_0, a1_1, a1_2, a1_3⟩) 66 #[.pointer (some ⟨gb176, 0, none⟩)] t178 t181 _ ?side1 ?side2 ?side3 A5.out).mono ?_); (case side3 => exact fun g3 W hB h3 => lit66 g3 gb176 a1_0 a1_1 a1_2 a1_3 W h3 (zr (uK BK176) hB)); (case side1 => exact uC HR0_0 HB); (case side2 => exact HC0_0.out); rintro e w14 ⟨v179, rfl, ho0, hb⟩; refine ⟨_, rfl, ?_⟩; have HO180 := zb.mk (Kd.R_lower ho0 (zq sB)); replace BK175 := dK BK175 hb; replace BK176 := dK BK176 hb; replace HB := zb.mk (zm sB hb); try clear hb))
  go_ret2
  exact ⟨_, by first | rfl | (simp [zn, zo] <;> rfl) | (simp [*, zn, zo] <;> rfl), by (with_reducible repeat (first | apply Kd.R_alloc | apply Kd.R_drewN | apply Kd.R_drew)); exact HO180.out, sB⟩
 replace c4 := Bool.eq_false_iff.mpr c4
 subst c4
 have H1 : (some (([] : List (S80)), 1)) = some (r1, r2) := by rw [if_neg (show ¬ (false = true) by decide)] at H; exact H
 clear H
 have H := H1
 clear H1
 simp only [Option.some.injEq, Prod.mk.injEq] at H
 obtain ⟨rfl, rfl⟩ := H
 go_enter Try.func19, Try.ntmps19
 go_wp2_with (first | ((with_reducible refine zy (N := 2) rfl ?_); refine bx (N := 2) #[.slice A0_0 l0_0.length c0_0, .int .i16 a0_1, .int .i16 a0_2, .int .i16 a0_3, .int .i16 a0_4, .bool a0_5] 29 rfl ?_; intro gb175 hg w15 hbox hb; have BK175 := zb.mk hbox; have GW175 := gB hg; have GE175 := GW175; replace HB := zb.mk (zm sB hb); clear hb hbox hg) | ((with_reducible refine zy (N := 3) rfl ?_); refine bx (N := 3) #[.int .i16 a1_0, .int .i16 a1_1, .int .i16 a1_2, .int .i16 a1_3] 27 rfl ?_; intro gb176 hg w16 hbox hb; have BK176 := zb.mk hbox; have GW176 := gB hg; have GE176 := GW176; have NB175_176 := nK hg BK175; have NB176_175 := zb.mk NB175_176.out.symm; replace BK175 := dK BK175 hb; replace HB := zb.mk (zm sB hb); clear hb hbox hg; have hnb17 := NB175_176.out; have hnc17 := NB176_175.out; obtain ⟨hcz18_0, hcz18_1, hcz18_2, hcz18_3, hcz18_4, hcz18_5⟩ := xc6 BK175; obtain ⟨hfz18_0, hfz18_1, hfz18_2, hfz18_3, hfz18_4, hfz18_5⟩ := xf6 BK175; obtain ⟨hcz19_0, hcz19_1, hcz19_2, hcz19_3⟩ := xc4 BK176; obtain ⟨hfz19_0, hfz19_1, hfz19_2, hfz19_3⟩ := xf4 BK176) | ((with_reducible refine zt (f := 64) rfl ?_); refine gz (some 8) Try.func64 #[.agg #[.slice A0_0 l0_0.length c0_0, .int .i16 a0_1, .int .i16 a0_2, .int .i16 a0_3, .int .i16 a0_4, .bool a0_5], .agg #[.int .i16 a1_0, .int .i16 a1_1, .int .i16 a1_2, .int .i16 a1_3]] rfl rfl ?_; (with_reducible refine (impl_ValidWater.calls k _ _ l0_0 a0_1 a0_2 a0_3 a0_4 a0_5 a1_0 a1_1 a1_2 a1_3 false _ ?side1 ?side2 A3.out).mono ?_); (case side1 => exact uC HR0_0 HB); (case side2 => exact HC0_0.out); rintro e w20 ⟨rfl, hb⟩; refine ⟨_, rfl, ?_⟩; replace BK175 := dK BK175 hb; replace BK176 := dK BK176 hb; replace HB := zb.mk (zm sB hb); try clear hb))
 go_ret2
 exact ⟨_, by first | rfl | (simp [zn, zo] <;> rfl) | (simp [*, zn, zo] <;> rfl), by first | exact Kd.R_nil _ _ _ _ _ | exact Kd.N_nil _ _ _ _ _ | exact Kd.V_nil _ _ _ _ _ | exact Kd.Q_nil _ _ _ _ _ | exact Kd.S_nil _ _ _ _ _, sB⟩
end Go.Proofs.Yteciomagemjjaaa.J
