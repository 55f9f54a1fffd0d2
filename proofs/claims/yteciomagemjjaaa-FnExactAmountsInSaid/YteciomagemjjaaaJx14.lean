-- Written by wip/tools/myprint.py, a program of this session, by way of the kit's print.
import Derived.Test.YteciomagemjjaaaJx0
import Derived.Test.YteciomagemjjaaaJx13
import Derived.Test.YteciomagemjjaaaLPrJ
namespace Go.Proofs.Yteciomagemjjaaa.J
open Go.RowKit Go.Proofs.YteciomagemjjaaaW.PrintWords Go.Proofs.YteciomagemjjaaaW.PrintLast Go.Proofs.YteciomagemjjaaaW.PrintMore
attribute [local go_sem] zna zpa zua zva zia zja zqa zoa   -- for this text's walks alone
set_option linter.unusedVariables false
set_option linter.unusedSimpArgs false

/-! ### laws_toPuzzle: function 34 -/
def laws_toPuzzle.f (k : Nat) (l0_0 : List Int) (a0_1 : Int) (a0_2 : Int) (a0_3 : Int) (a0_4 : Int) (a0_5 : Bool) : Option (List Int × Int × Int × Int × Int × Bool) := (laws_toInt16S.f k l0_0).bind fun t234 => ((laws_toWater.f k a0_1 a0_2 a0_3 a0_4).bind fun bt237 => (some (t234, bt237.1, bt237.2.1, bt237.2.2.1, bt237.2.2.2, a0_5)))
set_option maxHeartbeats 8000000 in
set_option maxRecDepth 100000 in
theorem laws_toPuzzle.calls (k : Nat) (A0_0 : Option Addr) (c0_0 : Nat) (l0_0 : List Int) (a0_1 : Int) (a0_2 : Int) (a0_3 : Int) (a0_4 : Int) (a0_5 : Bool) (r1 : List Int) (r2 : Int) (r3 : Int) (r4 : Int) (r5 : Int) (r6 : Bool) (w : World) (hr0_0 : Kd.C (Kd.int .i16) w A0_0 l0_0.length l0_0) (hc0_0 : l0_0.length ≤ c0_0) (h : laws_toPuzzle.f k l0_0 a0_1 a0_2 a0_3 a0_4 a0_5 = some (r1, r2, r3, r4, r5, r6)) :
  Calls Try.prog 34 #[.agg #[.slice A0_0 l0_0.length c0_0, .int .i16 a0_1, .int .i16 a0_2, .int .i16 a0_3, .int .i16 a0_4, .bool a0_5]] w fun e w' => ∃ v0_ : Value, e = .returned (.agg #[v0_, .int .i16 r2, .int .i16 r3, .int .i16 r4, .int .i16 r5, .bool r6]) ∧ Kd.R (Kd.int .i16) 25 w' w.heap.size (fun _ => True) v0_ r1 ∧ Below w.heap.size w w' := by
 have hu53 := Try.underlying53
 have hu29 := Try.underlying29
 have hu26 := Try.underlying26
 have hu27 := Try.underlying27
 have HR0_0 := za.mk hr0_0
 have HC0_0 := za.mk hc0_0
 clear hr0_0 hc0_0
 have HB := za.mk (Below.refl w.heap.size w)
 have H : ((laws_toInt16S.f k l0_0).bind fun t234 => ((laws_toWater.f k a0_1 a0_2 a0_3 a0_4).bind fun bt237 => (some (t234, bt237.1, bt237.2.1, bt237.2.2.1, bt237.2.2.2, a0_5)))) = some (r1, r2, r3, r4, r5, r6) := h
 clear h
 replace H := Option.bind_eq_some_iff.mp H
 obtain ⟨t234, A20, H⟩ := H
 replace H : ((laws_toWater.f k a0_1 a0_2 a0_3 a0_4).bind fun bt237 => (some (t234, bt237.1, bt237.2.1, bt237.2.2.1, bt237.2.2.2, a0_5))) = some (r1, r2, r3, r4, r5, r6) := H
 have A2 := za.mk A20
 clear A20
 replace H := Option.bind_eq_some_iff.mp H
 obtain ⟨⟨t237, t238, t239, t240⟩, A30, H⟩ := H
 replace H : (some (t234, t237, t238, t239, t240, a0_5)) = some (r1, r2, r3, r4, r5, r6) := H
 have A3 := za.mk A30
 clear A30
 simp only [Option.some.injEq, Prod.mk.injEq] at H
 obtain ⟨rfl, rfl, rfl, rfl, rfl, rfl⟩ := H
 go_enter Try.func34, Try.ntmps34
 go_wp2_with (first | ((with_reducible refine zu (N := 1) rfl ?_); refine bx (N := 1) #[.slice A0_0 l0_0.length c0_0, .int .i16 a0_1, .int .i16 a0_2, .int .i16 a0_3, .int .i16 a0_4, .bool a0_5] 53 rfl ?_; intro gb231 hg w4 hbox hb; have BK231 := za.mk hbox; have GW231 := gB hg; have GE231 := GW231; replace HB := za.mk (zh sB hb); clear hb hbox hg) | ((with_reducible refine zu (N := 2) rfl ?_); refine bx (N := 2) #[.slice none 0 0, .int .i16 0, .int .i16 0, .int .i16 0, .int .i16 0, .bool false] 29 rfl ?_; intro gb232 hg w5 hbox hb; have BK232 := za.mk hbox; have GW232 := gB hg; have GE232 := GW232; have NB231_232 := nK hg BK231; have NB232_231 := za.mk NB231_232.out.symm; replace BK231 := dK BK231 hb; replace HB := za.mk (zh sB hb); clear hb hbox hg) | ((with_reducible refine zu (N := 3) rfl ?_); refine bx (N := 3) #[.slice none 0 0, .int .i16 0, .int .i16 0, .int .i16 0, .int .i16 0, .bool false] 29 rfl ?_; intro gb233 hg w6 hbox hb; have BK233 := za.mk hbox; have GW233 := gB hg; have GE233 := GW233; have NB231_233 := nK hg BK231; have NB233_231 := za.mk NB231_233.out.symm; have NB232_233 := nK hg BK232; have NB233_232 := za.mk NB232_233.out.symm; replace BK231 := dK BK231 hb; replace BK232 := dK BK232 hb; replace HB := za.mk (zh sB hb); clear hb hbox hg; have hnb7 := NB231_232.out; have hnc7 := NB232_231.out; have hnb8 := NB231_233.out; have hnc8 := NB233_231.out; obtain ⟨hcz9_0, hcz9_1, hcz9_2, hcz9_3, hcz9_4, hcz9_5⟩ := xc6 BK231; obtain ⟨hfz9_0, hfz9_1, hfz9_2, hfz9_3, hfz9_4, hfz9_5⟩ := xf6 BK231) | ((with_reducible refine zn (f := 81) rfl ?_); refine gz (some 6) Try.func81 #[.slice A0_0 l0_0.length c0_0] rfl rfl ?_; (with_reducible refine (laws_toInt16S.calls k _ _ l0_0 t234 _ ?side1 ?side2 A2.out).mono ?_); (case side1 => exact uC HR0_0 HB); (case side2 => exact HC0_0.out); rintro e w10 ⟨v235, rfl, ho0, hb⟩; refine ⟨_, rfl, ?_⟩; have HO236 := za.mk (Kd.R_lower ho0 (zaa sB)); replace BK231 := dK BK231 hb; replace BK232 := dK BK232 hb; replace BK233 := dK BK233 hb; replace HB := za.mk (zh sB hb); try clear hb; obtain ⟨Ao11, co11, eo11⟩ := Kd.R_slice HO236.out; subst eo11; have hnb12 := NB233_232.out; have hnc12 := NB232_233.out; obtain ⟨hcz13_0, hcz13_1, hcz13_2, hcz13_3, hcz13_4, hcz13_5⟩ := xc6 BK233; obtain ⟨hfz13_0, hfz13_1, hfz13_2, hfz13_3, hfz13_4, hfz13_5⟩ := xf6 BK233; obtain ⟨hcz14_0, hcz14_1, hcz14_2, hcz14_3, hcz14_4, hcz14_5⟩ := xc6 BK231; obtain ⟨hfz14_0, hfz14_1, hfz14_2, hfz14_3, hfz14_4, hfz14_5⟩ := xf6 BK231) | ((with_reducible refine zn (f := 41) rfl ?_); refine gz (some 10) Try.func41 #[.agg #[.int .i16 a0_1, .int .i16 a0_2, .int .i16 a0_3, .int .i16 a0_4]] rfl rfl ?_; (with_reducible refine (laws_toWater.calls k a0_1 a0_2 a0_3 a0_4 t237 t238 t239 t240 _ A3.out).mono ?_); rintro e w15 ⟨rfl, hb⟩; refine ⟨_, rfl, ?_⟩; have n0_ := za.mk (Kd.R_below (uR' (Kd.R_mono (Kd.R_far (p := ⟨gb233, 0, none⟩) (Kd.R_types HO236.out BK233.out (by decide)) (fun _ hk => hk.2) (.slice Ao11 t234.length co11)) (fun _ h_ => h_.1))) hb); have n1_ := za.mk (zca (g := gb231) (o := .cells #[.slice A0_0 l0_0.length c0_0, .int .i16 a0_1, .int .i16 a0_2, .int .i16 a0_3, .int .i16 a0_4, .bool a0_5] 53 (0, 0)) (by (with_reducible repeat (first | refine ze ?_ _ | refine zf ?_ | refine zc ?_ _)); refine zm ?_ NB231_233.out _; (with_reducible repeat (first | refine ze ?_ _ | refine zf ?_ | refine zc ?_ _)); exact BK231.out) hb); have n2_ := za.mk (zca (g := gb232) (o := .cells #[.slice none 0 0, .int .i16 0, .int .i16 0, .int .i16 0, .int .i16 0, .bool false] 29 (0, 0)) (by (with_reducible repeat (first | refine ze ?_ _ | refine zf ?_ | refine zc ?_ _)); refine zm ?_ NB232_233.out _; (with_reducible repeat (first | refine ze ?_ _ | refine zf ?_ | refine zc ?_ _)); exact BK232.out) hb); have n3_ := za.mk (zca (g := gb233) (o := .cells #[.slice Ao11 t234.length co11, .int .i16 0, .int .i16 0, .int .i16 0, .int .i16 0, .bool false] 29 (0, 0)) (by (with_reducible repeat (first | refine ze ?_ _ | refine zf ?_ | refine zc ?_ _)); refine zx (cs := #[.slice none 0 0, .int .i16 0, .int .i16 0, .int .i16 0, .int .i16 0, .bool false]) ?_ 0 _ rfl; (with_reducible repeat (first | refine ze ?_ _ | refine zf ?_ | refine zc ?_ _)); exact BK233.out) hb); have n4_ := za.mk (zh sB hb); clear HO236; clear BK231; clear BK232; clear BK233; clear HB; have HO236 := n0_; have BK231 := n1_; have BK232 := n2_; have BK233 := n3_; have HB := n4_; clear n0_ n1_ n2_ n3_ n4_; try clear hb; obtain ⟨hcz16_0, hcz16_1, hcz16_2, hcz16_3, hcz16_4, hcz16_5⟩ := xc6 BK233; obtain ⟨hfz16_0, hfz16_1, hfz16_2, hfz16_3, hfz16_4, hfz16_5⟩ := xf6 BK233; obtain ⟨hcz17_0, hcz17_1, hcz17_2, hcz17_3, hcz17_4, hcz17_5⟩ := xc6 BK231; obtain ⟨hfz17_0, hfz17_1, hfz17_2, hfz17_3, hfz17_4, hfz17_5⟩ := xf6 BK231; obtain ⟨hcz18_0, hcz18_1, hcz18_2, hcz18_3, hcz18_4, hcz18_5⟩ := xc6 BK232; obtain ⟨hfz18_0, hfz18_1, hfz18_2, hfz18_3, hfz18_4, hfz18_5⟩ := xf6 BK232))
 refine bodyPost_ret (results_cell_row rfl _ _ gb232 29 #[.slice Ao11 t234.length co11, .int .i16 t237, .int .i16 t238, .int .i16 t239, .int .i16 t240, .bool a0_5] (0, 0) _ rfl (by (with_reducible repeat (first | refine ze ?_ _ | refine zf ?_ | refine zc ?_ _)); refine zx (cs := #[.slice Ao11 t234.length co11, .int .i16 t237, .int .i16 t238, .int .i16 t239, .int .i16 t240, .bool false]) ?_ 5 _ rfl; (with_reducible repeat (first | refine ze ?_ _ | refine zf ?_ | refine zc ?_ _)); refine zx (cs := #[.slice Ao11 t234.length co11, .int .i16 t237, .int .i16 t238, .int .i16 t239, .int .i16 0, .bool false]) ?_ 4 _ rfl; (with_reducible repeat (first | refine ze ?_ _ | refine zf ?_ | refine zc ?_ _)); refine zx (cs := #[.slice Ao11 t234.length co11, .int .i16 t237, .int .i16 t238, .int .i16 0, .int .i16 0, .bool false]) ?_ 3 _ rfl; (with_reducible repeat (first | refine ze ?_ _ | refine zf ?_ | refine zc ?_ _)); refine zx (cs := #[.slice Ao11 t234.length co11, .int .i16 t237, .int .i16 0, .int .i16 0, .int .i16 0, .bool false]) ?_ 2 _ rfl; (with_reducible repeat (first | refine ze ?_ _ | refine zf ?_ | refine zc ?_ _)); refine zx (cs := #[.slice Ao11 t234.length co11, .int .i16 0, .int .i16 0, .int .i16 0, .int .i16 0, .bool false]) ?_ 1 _ rfl; (with_reducible repeat (first | refine ze ?_ _ | refine zf ?_ | refine zc ?_ _)); refine zx (cs := #[.slice none 0 0, .int .i16 0, .int .i16 0, .int .i16 0, .int .i16 0, .bool false]) ?_ 0 _ rfl; (with_reducible repeat (first | refine ze ?_ _ | refine zf ?_ | refine zc ?_ _)); refine zm ?_ NB232_233.out _; (with_reducible repeat (first | refine ze ?_ _ | refine zf ?_ | refine zc ?_ _)); refine zm ?_ NB232_233.out _; (with_reducible repeat (first | refine ze ?_ _ | refine zf ?_ | refine zc ?_ _)); refine zm ?_ NB232_233.out _; (with_reducible repeat (first | refine ze ?_ _ | refine zf ?_ | refine zc ?_ _)); refine zm ?_ NB232_233.out _; (with_reducible repeat (first | refine ze ?_ _ | refine zf ?_ | refine zc ?_ _)); refine zm ?_ NB232_233.out _; (with_reducible repeat (first | refine ze ?_ _ | refine zf ?_ | refine zc ?_ _)); exact BK232.out) Try.underlying29 rfl (by kernel_rfl)) rfl ?_
 exact ⟨_, by first | rfl | (simp [zj, zk] <;> rfl) | (simp [*, zj, zk] <;> rfl), by (with_reducible repeat (first | apply Kd.R_alloc | apply Kd.R_drewN | apply Kd.R_drew)); exact Kd.R_mono (Kd.R_far (p := ⟨gb232, 5, none⟩) (Kd.R_far (p := ⟨gb232, 4, none⟩) (Kd.R_far (p := ⟨gb232, 3, none⟩) (Kd.R_far (p := ⟨gb232, 2, none⟩) (Kd.R_far (p := ⟨gb232, 1, none⟩) (Kd.R_far (p := ⟨gb232, 0, none⟩) (Kd.R_far (p := ⟨gb233, 5, none⟩) (Kd.R_far (p := ⟨gb233, 4, none⟩) (Kd.R_far (p := ⟨gb233, 3, none⟩) (Kd.R_far (p := ⟨gb233, 2, none⟩) (Kd.R_far (p := ⟨gb233, 1, none⟩) (Kd.R_types (Kd.R_types HO236.out BK233.out (by decide)) BK232.out (by decide)) (fun _ hk => hk.1.2) (.int .i16 t237)) (fun _ hk => hk.1.2) (.int .i16 t238)) (fun _ hk => hk.1.2) (.int .i16 t239)) (fun _ hk => hk.1.2) (.int .i16 t240)) (fun _ hk => hk.1.2) (.bool a0_5)) (fun _ hk => hk.2) (.slice Ao11 t234.length co11)) (fun _ hk => hk.2) (.int .i16 t237)) (fun _ hk => hk.2) (.int .i16 t238)) (fun _ hk => hk.2) (.int .i16 t239)) (fun _ hk => hk.2) (.int .i16 t240)) (fun _ hk => hk.2) (.bool a0_5)) (fun _ hk => trivial), sB⟩

/-! ### laws_eqWater: function 36 -/
def laws_eqWater.l0 : Nat → Int → Int → Int → Int → Int → Int → Int → Int → Int → Option (Bool)
 | 0, _, _, _, _, _, _, _, _, _ => none
 | k + 1, x5, x242000, x242001, x242002, x242003, x243000, x243001, x243002, x243003 => if x5 < 4 then (if 0 ≤ x5 then (if (rd [x242000, x242001, x242002, x242003] x5) = (rd [x243000, x243001, x243002, x243003] x5) then (laws_eqWater.l0 k (wrap64 (x5 + 1)) x242000 x242001 x242002 x242003 x243000 x243001 x243002 x243003) else (some false)) else (none)) else (some true)
def laws_eqWater.f (k : Nat) (a0_0 : Int) (a0_1 : Int) (a0_2 : Int) (a0_3 : Int) (a1_0 : Int) (a1_1 : Int) (a1_2 : Int) (a1_3 : Int) : Option (Bool) := laws_eqWater.l0 k 0 a0_0 a0_1 a0_2 a0_3 a1_0 a1_1 a1_2 a1_3
set_option maxHeartbeats 8000000 in
set_option maxRecDepth 100000 in
theorem laws_eqWater.calls (k : Nat) (a0_0 : Int) (a0_1 : Int) (a0_2 : Int) (a0_3 : Int) (a1_0 : Int) (a1_1 : Int) (a1_2 : Int) (a1_3 : Int) (r : Bool) (w : World) (h : laws_eqWater.f k a0_0 a0_1 a0_2 a0_3 a1_0 a1_1 a1_2 a1_3 = some r) :
  Calls Try.prog 36 #[.agg #[.int .i16 a0_0, .int .i16 a0_1, .int .i16 a0_2, .int .i16 a0_3], .agg #[.int .i16 a1_0, .int .i16 a1_1, .int .i16 a1_2, .int .i16 a1_3]] w fun e w' => e = .returned (.bool r) ∧ Below w.heap.size w w' := by
 have hu27 := Try.underlying27
 have HB := za.mk (Below.refl w.heap.size w)
 have H : (laws_eqWater.l0 k 0 a0_0 a0_1 a0_2 a0_3 a1_0 a1_1 a1_2 a1_3) = some r := h
 clear h
 have H' := za.mk H
 clear H
 go_enter Try.func36, Try.ntmps36
 go_wp2_with (first | ((with_reducible refine zu (N := 2) rfl ?_); refine bx (N := 2) #[.int .i16 a0_0, .int .i16 a0_1, .int .i16 a0_2, .int .i16 a0_3] 27 rfl ?_; intro gb241 hg w3 hbox hb; have BK241 := za.mk hbox; have GW241 := gB hg; have GE241 := GW241; replace HB := za.mk (zh sB hb); clear hb hbox hg) | ((with_reducible refine zu (N := 3) rfl ?_); refine bx (N := 3) #[.int .i16 a1_0, .int .i16 a1_1, .int .i16 a1_2, .int .i16 a1_3] 27 rfl ?_; intro gb242 hg w4 hbox hb; have BK242 := za.mk hbox; have GW242 := gB hg; have GE242 := GW242; have NB241_242 := nK hg BK241; have NB242_241 := za.mk NB241_242.out.symm; replace BK241 := dK BK241 hb; replace HB := za.mk (zh sB hb); clear hb hbox hg))
 repeat (go_quiet (first | ((with_reducible refine zu (N := 2) rfl ?_); refine bx (N := 2) #[.int .i16 a0_0, .int .i16 a0_1, .int .i16 a0_2, .int .i16 a0_3] 27 rfl ?_; intro gb241 hg w3 hbox hb; have BK241 := za.mk hbox; have GW241 := gB hg; have GE241 := GW241; replace HB := za.mk (zh sB hb); clear hb hbox hg) | ((with_reducible refine zu (N := 3) rfl ?_); refine bx (N := 3) #[.int .i16 a1_0, .int .i16 a1_1, .int .i16 a1_2, .int .i16 a1_3] 27 rfl ?_; intro gb242 hg w4 hbox hb; have BK242 := za.mk hbox; have GW242 := gB hg; have GE242 := GW242; have NB241_242 := nK hg BK241; have NB242_241 := za.mk NB241_242.out.symm; replace BK241 := dK BK241 hb; replace HB := za.mk (zh sB hb); clear hb hbox hg)); try go_wp2_with (first | ((with_reducible refine zu (N := 2) rfl ?_); refine bx (N := 2) #[.int .i16 a0_0, .int .i16 a0_1, .int .i16 a0_2, .int .i16 a0_3] 27 rfl ?_; intro gb241 hg w3 hbox hb; have BK241 := za.mk hbox; have GW241 := gB hg; have GE241 := GW241; replace HB := za.mk (zh sB hb); clear hb hbox hg) | ((with_reducible refine zu (N := 3) rfl ?_); refine bx (N := 3) #[.int .i16 a1_0, .int .i16 a1_1, .int .i16 a1_2, .int .i16 a1_3] 27 rfl ?_; intro gb242 hg w4 hbox hb; have BK242 := za.mk hbox; have GW242 := gB hg; have GE242 := GW242; have NB241_242 := nK hg BK241; have NB242_241 := za.mk NB241_242.out.symm; replace BK241 := dK BK241 hb; replace HB := za.mk (zh sB hb); clear hb hbox hg)))
 go_loopg [5] k (fun kq v5 w' => ∃ (x5_1 : Int), v5 = .int .i64 x5_1 ∧ za (laws_eqWater.l0 kq x5_1 a0_0 a0_1 a0_2 a0_3 a1_0 a1_1 a1_2 a1_3 = some r) ∧ za (kq ≤ k) ∧ za (w'.heap[gb241]? = some (.cells #[.int .i16 a0_0, .int .i16 a0_1, .int .i16 a0_2, .int .i16 a0_3] 27 (0, 0))) ∧ za (w'.heap[gb242]? = some (.cells #[.int .i16 a1_0, .int .i16 a1_1, .int .i16 a1_2, .int .i16 a1_3] 27 (0, 0))) ∧ za (Below w.heap.size w w'))
 case atStart => exact ⟨(0), (by first | rfl | (simp; done) | (simp [*]; done)), H', ⟨Nat.le_refl _⟩, ⟨uK BK241⟩, ⟨uK BK242⟩, ⟨sB⟩⟩
 case round =>
  clear H'
  try clear p2
  try clear c3
  obtain ⟨x5_1, rfl, HA, HK1, BK241, BK242, HB⟩ := hrel
  cases gk with
  | zero => exact absurd HA.out (by simp [laws_eqWater.l0])
  | succ k1 =>
   have H := HA.out
   clear HA
   simp only [laws_eqWater.l0] at H
   by_cases c5 : x5_1 < 4
   ·rw [if_pos c5] at H
    have c5b0 : decide (x5_1 < 4) = true := decide_eq_true c5
    clear c5
    by_cases c6 : 0 ≤ x5_1
    ·rw [if_pos c6] at H
     have c6b0 : decide (0 ≤ x5_1) = true := decide_eq_true c6
     clear c6
     by_cases c7 : (rd [a0_0, a0_1, a0_2, a0_3] x5_1) = (rd [a1_0, a1_1, a1_2, a1_3] x5_1)
     ·rw [if_pos c7] at H
      have c7b0 : ((rd [a0_0, a0_1, a0_2, a0_3] x5_1) == (rd [a1_0, a1_1, a1_2, a1_3] x5_1)) = true := beq_iff_eq.mpr c7
      have c7b1 : ((rd [a0_0, a0_1, a0_2, a0_3] x5_1) != (rd [a1_0, a1_1, a1_2, a1_3] x5_1)) = false := bne_eq_false_iff_eq.mpr c7
      clear c7
      have H' := za.mk H
      clear H
      have p8 : 0 ≤ (x5_1 : Int) := of_decide_eq_true (by first | (with_reducible assumption) | assumption)
      have q8 : x5_1 < (4 : Int) := of_decide_eq_true (by first | (with_reducible assumption) | assumption)
      replace p8 := eq_true p8
      replace q8 := eq_true q8
      have hnb9 := NB241_242.out
      have hnc9 := NB242_241.out
      obtain ⟨hcz10_0, hcz10_1, hcz10_2, hcz10_3⟩ := xc4 BK241
      obtain ⟨hfz10_0, hfz10_1, hfz10_2, hfz10_3⟩ := xf4 BK241
      have hx11_0 : wr.cell? ⟨gb241, (x5_1).toNat, none⟩ = some (.int .i16 (rd [a0_0, a0_1, a0_2, a0_3] x5_1)) := (zb BK241.out _).trans (by rcases (show (x5_1 : Int) = 0 ∨ (x5_1 : Int) = 1 ∨ (x5_1 : Int) = 2 ∨ (x5_1 : Int) = 3 by have hp_ : 0 ≤ (x5_1 : Int) := of_decide_eq_true (by first | (with_reducible assumption) | assumption); have hq_ : x5_1 < (4 : Int) := of_decide_eq_true (by first | (with_reducible assumption) | assumption); omega) with h_ | h_ | h_ | h_ <;> rw [h_] <;> rfl)
      have p12 : 0 ≤ (x5_1 : Int) := of_decide_eq_true (by first | (with_reducible assumption) | assumption)
      have q12 : x5_1 < (4 : Int) := of_decide_eq_true (by first | (with_reducible assumption) | assumption)
      replace p12 := eq_true p12
      replace q12 := eq_true q12
      obtain ⟨hcz13_0, hcz13_1, hcz13_2, hcz13_3⟩ := xc4 BK242
      obtain ⟨hfz13_0, hfz13_1, hfz13_2, hfz13_3⟩ := xf4 BK242
      have hx14_0 : wr.cell? ⟨gb242, (x5_1).toNat, none⟩ = some (.int .i16 (rd [a1_0, a1_1, a1_2, a1_3] x5_1)) := (zb BK242.out _).trans (by rcases (show (x5_1 : Int) = 0 ∨ (x5_1 : Int) = 1 ∨ (x5_1 : Int) = 2 ∨ (x5_1 : Int) = 3 by have hp_ : 0 ≤ (x5_1 : Int) := of_decide_eq_true (by first | (with_reducible assumption) | assumption); have hq_ : x5_1 < (4 : Int) := of_decide_eq_true (by first | (with_reducible assumption) | assumption); omega) with h_ | h_ | h_ | h_ <;> rw [h_] <;> rfl)
      go_wp2
      repeat (go_quiet (fail); try go_wp2)
      go_roundg k1
      case measure => have := HK1.out; omega
      case rel => exact ⟨(wrap64 (x5_1 + 1)), (by first | rfl | (simp; done) | (simp [*]; done)), H', ⟨by have := HK1.out; omega⟩, ⟨uK BK241⟩, ⟨uK BK242⟩, ⟨sB⟩⟩
     rw [if_neg c7] at H
     have c7b0 : ((rd [a0_0, a0_1, a0_2, a0_3] x5_1) == (rd [a1_0, a1_1, a1_2, a1_3] x5_1)) = false := beq_eq_false_iff_ne.mpr c7
     have c7b1 : ((rd [a0_0, a0_1, a0_2, a0_3] x5_1) != (rd [a1_0, a1_1, a1_2, a1_3] x5_1)) = true := bne_iff_ne.mpr c7
     obtain rfl := Option.some.inj H
     have p15 : 0 ≤ (x5_1 : Int) := of_decide_eq_true (by first | (with_reducible assumption) | assumption)
     have q15 : x5_1 < (4 : Int) := of_decide_eq_true (by first | (with_reducible assumption) | assumption)
     replace p15 := eq_true p15
     replace q15 := eq_true q15
     have hnb16 := NB241_242.out
     have hnc16 := NB242_241.out
     obtain ⟨hcz17_0, hcz17_1, hcz17_2, hcz17_3⟩ := xc4 BK241
     obtain ⟨hfz17_0, hfz17_1, hfz17_2, hfz17_3⟩ := xf4 BK241
     have hx18_0 : wr.cell? ⟨gb241, (x5_1).toNat, none⟩ = some (.int .i16 (rd [a0_0, a0_1, a0_2, a0_3] x5_1)) := (zb BK241.out _).trans (by rcases (show (x5_1 : Int) = 0 ∨ (x5_1 : Int) = 1 ∨ (x5_1 : Int) = 2 ∨ (x5_1 : Int) = 3 by have hp_ : 0 ≤ (x5_1 : Int) := of_decide_eq_true (by first | (with_reducible assumption) | assumption); have hq_ : x5_1 < (4 : Int) := of_decide_eq_true (by first | (with_reducible assumption) | assumption); omega) with h_ | h_ | h_ | h_ <;> rw [h_] <;> rfl)
     have p19 : 0 ≤ (x5_1 : Int) := of_decide_eq_true (by first | (with_reducible assumption) | assumption)
     have q19 : x5_1 < (4 : Int) := of_decide_eq_true (by first | (with_reducible assumption) | assumption)
     replace p19 := eq_true p19
     replace q19 := eq_true q19
     obtain ⟨hcz20_0, hcz20_1, hcz20_2, hcz20_3⟩ := xc4 BK242
     obtain ⟨hfz20_0, hfz20_1, hfz20_2, hfz20_3⟩ := xf4 BK242
     have hx21_0 : wr.cell? ⟨gb242, (x5_1).toNat, none⟩ = some (.int .i16 (rd [a1_0, a1_1, a1_2, a1_3] x5_1)) := (zb BK242.out _).trans (by rcases (show (x5_1 : Int) = 0 ∨ (x5_1 : Int) = 1 ∨ (x5_1 : Int) = 2 ∨ (x5_1 : Int) = 3 by have hp_ : 0 ≤ (x5_1 : Int) := of_decide_eq_true (by first | (with_reducible assumption) | assumption); have hq_ : x5_1 < (4 : Int) := of_decide_eq_true (by first | (with_reducible assumption) | assumption); omega) with h_ | h_ | h_ | h_ <;> rw [h_] <;> rfl)
     go_wp2
     repeat (go_quiet (fail); try go_wp2)
     go_ret
     exact ⟨by first | rfl | (simp [zj, zk] <;> rfl) | (simp [*, zj, zk] <;> rfl), sB⟩
    rw [if_neg c6] at H
    exact absurd H (by simp)
   rw [if_neg c5] at H
   have c5b0 : decide (x5_1 < 4) = false := decide_eq_false c5
   clear c5
   obtain rfl := Option.some.inj H
   go_wp2
   repeat (go_quiet (fail); try go_wp2)
   go_ret
   exact ⟨by first | rfl | (simp [zj, zk] <;> rfl) | (simp [*, zj, zk] <;> rfl), sB⟩

end Go.Proofs.Yteciomagemjjaaa.J
