/- The way to the first water that is accepted. -/
import Derived.Test.YteciomagemjjaaaLWidJ
import Derived.Test.YteciomagemjjaaaLRevJ
import Derived.Test.YteciomagemjjaaaLPrJ
namespace Go.Proofs.Yteciomagemjjaaa.J
open Go.RowKit Go.Proofs.YteciomagemjjaaaW.PrintWords Go.Proofs.YteciomagemjjaaaW.PrintLast Go.Proofs.YteciomagemjjaaaW.PrintMore
attribute [local go_sem] zna zka zra zsa zga zha zla zma   -- for this text's walks alone
set_option linter.unusedVariables false
set_option linter.unusedSimpArgs false
def idxG.f (p : S27 → Bool) (t : List S82) : Option Int := if t.length < 1000000 then some (fIdx p t 0) else none
theorem zwe (p : S27 → Bool) (g3 : Nat) (A : Option Addr) (c : Nat) (q : List S82) (r : Int) (w : World) (hr : Kd.C k82 w A q.length q) (hc : q.length ≤ c) (ht : Tells p g3 w) (h : idxG.f p q = some r) :
    Calls Try.prog 98 #[.slice A q.length c, .func (.func 99) #[] #[.pointer (some ⟨g3, 0, none⟩)]] w fun e w' => e = .returned (.int .i64 r) ∧ Below w.heap.size w w' := by
  unfold idxG.f at h
  split at h
  · rename_i hl
    injection h with h
    subst h
    exact idxF_calls p g3 A c q w hr hc hl ht
  cases h
/-! ### impl_Puzzle_wayTo: function 65 -/
def impl_Puzzle_wayTo.l0 : Nat → List (S82) → Int → List (S80) → Option ((List (S80)) × Int)
 | 0, _, _, _ => none
 | k + 1, x6, x7, x8 => if 0 ≤ x7 then (if x7 < (x6.length : Int) then (if ((zq x6 x7).f1) ≥ 0 then (if x8.length < 46912496118442 then (impl_Puzzle_wayTo.l0 k x6 ((zq x6 x7).f1) (x8 ++ [(⟨(zq x6 x7).f2.f0, (zq x6 x7).f2.f1, (zq x6 x7).f2.f2⟩ : S80)])) else (none)) else ((slices_ReverseM.f k x8).bind fun t173 => (some (t173, 0)))) else (none)) else (none)
def impl_Puzzle_wayTo.f (k : Nat) (l0_0 : List Int) (a0_1 : Int) (a0_2 : Int) (a0_3 : Int) (a0_4 : Int) (a0_5 : Bool) (p : S27 → Bool) : Option ((List (S80)) × Int) := (impl_Puzzle_search.f k l0_0 a0_1 a0_2 a0_3 a0_4 a0_5).bind fun t160 => ((idxG.f p t160).bind fun t163 => (if t163 < 0 then (some (([] : List (S80)), 6)) else (impl_Puzzle_wayTo.l0 k t160 t163 (([] : List (S80))))))
set_option maxHeartbeats 8000000 in
set_option maxRecDepth 100000 in
theorem impl_Puzzle_wayTo.calls (k : Nat) (A0_0 : Option Addr) (c0_0 : Nat) (l0_0 : List Int) (a0_1 : Int) (a0_2 : Int) (a0_3 : Int) (a0_4 : Int) (a0_5 : Bool) (p : S27 → Bool) (fA : Nat) (caps : Array Value) (r1 : List (S80)) (r2 : Int) (w : World) (hr0_0 : Kd.C (Kd.int .i16) w A0_0 l0_0.length l0_0) (hc0_0 : l0_0.length ≤ c0_0) (hF : ∀ (g3 : Nat) (W : World), Below w.heap.size w W → W.heap[g3]? = some (.cells #[.func (.func fA) #[] caps] 97 (0, 0)) → Tells p g3 W) (h : impl_Puzzle_wayTo.f k l0_0 a0_1 a0_2 a0_3 a0_4 a0_5 p = some (r1, r2)) :
  Calls Try.prog 65 #[.agg #[.slice A0_0 l0_0.length c0_0, .int .i16 a0_1, .int .i16 a0_2, .int .i16 a0_3, .int .i16 a0_4, .bool a0_5], .func (.func fA) #[] caps] w fun e w' => ∃ v0_ : Value, e = .returned (.tuple #[v0_, .int .i64 r2]) ∧ Kd.R k80 80 w' w.heap.size (fun _ => True) v0_ r1 ∧ Below w.heap.size w w' := by
 have hu29 := Try.underlying29
 have hu27 := Try.underlying27
 have hu80 := Try.underlying80
 have HR0_0 := za.mk hr0_0
 have HC0_0 := za.mk hc0_0
 clear hr0_0 hc0_0
 have HF := za.mk hF
 clear hF
 have HB := za.mk (Below.refl w.heap.size w)
 have H : ((impl_Puzzle_search.f k l0_0 a0_1 a0_2 a0_3 a0_4 a0_5).bind fun t160 => ((idxG.f p t160).bind fun t163 => (if t163 < 0 then (some (([] : List (S80)), 6)) else (impl_Puzzle_wayTo.l0 k t160 t163 (([] : List (S80))))))) = some (r1, r2) := h
 clear h
 replace H := Option.bind_eq_some_iff.mp H
 obtain ⟨t160, A30, H⟩ := H
 replace H : ((idxG.f p t160).bind fun t163 => (if t163 < 0 then (some (([] : List (S80)), 6)) else (impl_Puzzle_wayTo.l0 k t160 t163 (([] : List (S80)))))) = some (r1, r2) := H
 have A3 := za.mk A30
 clear A30
 replace H := Option.bind_eq_some_iff.mp H
 obtain ⟨t163, A40, H⟩ := H
 replace H : (if t163 < 0 then (some (([] : List (S80)), 6)) else (impl_Puzzle_wayTo.l0 k t160 t163 (([] : List (S80))))) = some (r1, r2) := H
 have A4 := za.mk A40
 clear A40
 by_cases c5 : t163 < 0
 ·rw [if_pos c5] at H
  have c5b0 : decide (t163 < 0) = true := decide_eq_true c5
  clear c5
  simp only [Option.some.injEq, Prod.mk.injEq] at H
  obtain ⟨rfl, rfl⟩ := H
  go_enter Try.func65, Try.ntmps65
  go_wp2_with (first | ((with_reducible refine zu (N := 2) rfl ?_); refine bx (N := 2) #[.slice A0_0 l0_0.length c0_0, .int .i16 a0_1, .int .i16 a0_2, .int .i16 a0_3, .int .i16 a0_4, .bool a0_5] 29 rfl ?_; intro gb158 hg w6 hbox hb; have BK158 := za.mk hbox; have GW158 := gB hg; have GE158 := GW158; replace HB := za.mk (zi sB hb); clear hb hbox hg) | ((with_reducible refine zu (N := 3) rfl ?_); refine bx (N := 3) #[.func (.func fA) #[] caps] 97 rfl ?_; intro gb159 hg w7 hbox hb; have BK159 := za.mk hbox; have GW159 := gB hg; have GE159 := GW159; have NB158_159 := nK hg BK158; have NB159_158 := za.mk NB158_159.out.symm; replace BK158 := dK BK158 hb; replace HB := za.mk (zi sB hb); clear hb hbox hg; have hnb8 := NB158_159.out; have hnc8 := NB159_158.out; obtain ⟨hcz9_0, hcz9_1, hcz9_2, hcz9_3, hcz9_4, hcz9_5⟩ := xc6 BK158; obtain ⟨hfz9_0, hfz9_1, hfz9_2, hfz9_3, hfz9_4, hfz9_5⟩ := xf6 BK158) | ((with_reducible refine zl (f := 55) rfl ?_); refine gz (some 10) Try.func55 #[.agg #[.slice A0_0 l0_0.length c0_0, .int .i16 a0_1, .int .i16 a0_2, .int .i16 a0_3, .int .i16 a0_4, .bool a0_5]] rfl rfl ?_; (with_reducible refine (impl_Puzzle_search.calls k _ _ l0_0 a0_1 a0_2 a0_3 a0_4 a0_5 t160 _ ?side1 ?side2 A3.out).mono ?_); (case side1 => exact uC HR0_0 HB); (case side2 => exact HC0_0.out); rintro e w10 ⟨v161, rfl, ho0, hb⟩; refine ⟨_, rfl, ?_⟩; obtain ⟨Ao_, co_, eo_⟩ := Kd.R_slice ho0; subst eo_; have HO162 := za.mk (Kd.R_lower ho0 (zz sB)); replace BK158 := dK BK158 hb; replace BK159 := dK BK159 hb; replace HB := za.mk (zi sB hb); try clear hb; obtain ⟨hcz11_0, hcz11_1, hcz11_2, hcz11_3, hcz11_4, hcz11_5⟩ := xc6 BK158; obtain ⟨hfz11_0, hfz11_1, hfz11_2, hfz11_3, hfz11_4, hfz11_5⟩ := xf6 BK158) | ((with_reducible refine zl (f := 98) rfl ?_); refine gz (some 13) Try.func98 #[.slice Ao_ t160.length co_, .func (.func 99) #[] #[.pointer (some ⟨gb159, 0, none⟩)]] rfl rfl ?_; (with_reducible refine (zwe p gb159 Ao_ co_ t160 t163 _ ?side1 ?side2 ?side3 A4.out).mono ?_); (case side1 => exact (Kd.R_reads' (uR HO162)).2.2); (case side2 => exact (Kd.R_reads' HO162.out).2.1); (case side3 => exact HF.out _ _ sB (uK BK159)); rintro e wI ⟨rfl, hb⟩; refine ⟨_, rfl, ?_⟩; have n0_ := dR HO162 hb; have n1_ := dK BK158 hb; have n2_ := dK BK159 hb; have n3_ := za.mk (zi sB hb); clear HO162 BK158 BK159 HB hb; have HO162 := n0_; have BK158 := n1_; have BK159 := n2_; have HB := n3_; clear n0_ n1_ n2_ n3_))
  go_ret2
  exact ⟨_, by first | rfl | (simp [zj, zk] <;> rfl) | (simp [*, zj, zk] <;> rfl), by first | exact Kd.R_nil _ _ _ _ _ | exact Kd.N_nil _ _ _ _ _ | exact Kd.V_nil _ _ _ _ _ | exact Kd.Q_nil _ _ _ _ _ | exact Kd.S_nil _ _ _ _ _, sB⟩
 rw [if_neg c5] at H
 have c5b0 : decide (t163 < 0) = false := decide_eq_false c5
 clear c5
 obtain ⟨y164, hy164⟩ : ∃ y_ : List (S80), y_ = (([] : List (S80))) := ⟨_, rfl⟩
 replace H : (impl_Puzzle_wayTo.l0 k t160 t163 y164) = some (r1, r2) := by first | (rw [hy164]; with_reducible exact H) | (have H2_ := (Option.bind_some _ _).symm.trans H; rw [hy164]; with_reducible exact H2_) | (have H2_ := (Option.bind_some _ _).symm.trans H; with_reducible exact H2_) | with_reducible exact H | (rw [hy164]; exact H) | exact H
 have Ny164 := za.mk hy164
 clear hy164
 have H' := za.mk H
 clear H
 go_enter Try.func65, Try.ntmps65
 go_wp2_with (first | ((with_reducible refine zu (N := 2) rfl ?_); refine bx (N := 2) #[.slice A0_0 l0_0.length c0_0, .int .i16 a0_1, .int .i16 a0_2, .int .i16 a0_3, .int .i16 a0_4, .bool a0_5] 29 rfl ?_; intro gb158 hg w12 hbox hb; have BK158 := za.mk hbox; have GW158 := gB hg; have GE158 := GW158; replace HB := za.mk (zi sB hb); clear hb hbox hg) | ((with_reducible refine zu (N := 3) rfl ?_); refine bx (N := 3) #[.func (.func fA) #[] caps] 97 rfl ?_; intro gb159 hg w13 hbox hb; have BK159 := za.mk hbox; have GW159 := gB hg; have GE159 := GW159; have NB158_159 := nK hg BK158; have NB159_158 := za.mk NB158_159.out.symm; replace BK158 := dK BK158 hb; replace HB := za.mk (zi sB hb); clear hb hbox hg; have hnb14 := NB158_159.out; have hnc14 := NB159_158.out; obtain ⟨hcz15_0, hcz15_1, hcz15_2, hcz15_3, hcz15_4, hcz15_5⟩ := xc6 BK158; obtain ⟨hfz15_0, hfz15_1, hfz15_2, hfz15_3, hfz15_4, hfz15_5⟩ := xf6 BK158) | ((with_reducible refine zl (f := 55) rfl ?_); refine gz (some 10) Try.func55 #[.agg #[.slice A0_0 l0_0.length c0_0, .int .i16 a0_1, .int .i16 a0_2, .int .i16 a0_3, .int .i16 a0_4, .bool a0_5]] rfl rfl ?_; (with_reducible refine (impl_Puzzle_search.calls k _ _ l0_0 a0_1 a0_2 a0_3 a0_4 a0_5 t160 _ ?side1 ?side2 A3.out).mono ?_); (case side1 => exact uC HR0_0 HB); (case side2 => exact HC0_0.out); rintro e w16 ⟨v161, rfl, ho0, hb⟩; refine ⟨_, rfl, ?_⟩; obtain ⟨Ao_, co_, eo_⟩ := Kd.R_slice ho0; subst eo_; have HO162 := za.mk (Kd.R_lower ho0 (zz sB)); replace BK158 := dK BK158 hb; replace BK159 := dK BK159 hb; replace HB := za.mk (zi sB hb); try clear hb; obtain ⟨hcz17_0, hcz17_1, hcz17_2, hcz17_3, hcz17_4, hcz17_5⟩ := xc6 BK158; obtain ⟨hfz17_0, hfz17_1, hfz17_2, hfz17_3, hfz17_4, hfz17_5⟩ := xf6 BK158) | ((with_reducible refine zl (f := 98) rfl ?_); refine gz (some 13) Try.func98 #[.slice Ao_ t160.length co_, .func (.func 99) #[] #[.pointer (some ⟨gb159, 0, none⟩)]] rfl rfl ?_; (with_reducible refine (zwe p gb159 Ao_ co_ t160 t163 _ ?side1 ?side2 ?side3 A4.out).mono ?_); (case side1 => exact (Kd.R_reads' (uR HO162)).2.2); (case side2 => exact (Kd.R_reads' HO162.out).2.1); (case side3 => exact HF.out _ _ sB (uK BK159)); rintro e wI ⟨rfl, hb⟩; refine ⟨_, rfl, ?_⟩; have n0_ := dR HO162 hb; have n1_ := dK BK158 hb; have n2_ := dK BK159 hb; have n3_ := za.mk (zi sB hb); clear HO162 BK158 BK159 HB hb; have HO162 := n0_; have BK158 := n1_; have BK159 := n2_; have HB := n3_; clear n0_ n1_ n2_ n3_) | ((with_reducible refine zu (N := 16) rfl ?_); refine Kd.R_lit k80 _ 80 ?hg (N := 16) ?hd (xs := ([] : List (S80))) (inner := []) (ok := fun _ => True) (okp := fun _ => True) ?hr ?hp (fun _ hk => hk) trivial (Below.refl _ _) (Nat.le_refl _) (by simp) ?_; (case hd => rfl); (case hg => rfl); (case hr => first | (go_simp; done) | (go_simp; rfl)); (case hp => exact (Reps.none _ _)); intro v165 w18 ho19 hb hg_ hnew_; clear hg_ hnew_; (first | rw [← Ny164.out] at ho19 | (simp only [Int.reduceToNat] at ho19; rw [← Ny164.out] at ho19)); have HO166 := za.mk (Kd.R_lower ho19 (zz sB)); replace HO162 := dR HO162 hb; replace BK158 := dK BK158 hb; replace BK159 := dK BK159 hb; replace HB := za.mk (zi sB hb); clear hb ho19))
 go_loopg [7, 8] k (fun kq v7 v8 w' => ∃ (x7_1 : Int) (x8_1 : List (S80)), v7 = .int .i64 x7_1 ∧ za (impl_Puzzle_wayTo.l0 kq t160 x7_1 x8_1 = some (r1, r2)) ∧ za (kq ≤ k) ∧ za (Kd.R k82 82 w' w.heap.size (fun _ => True) (.slice Ao_ t160.length co_) t160) ∧ za (Kd.R k80 80 w' w.heap.size (fun _ => True) v8 x8_1) ∧ za (w'.heap[gb158]? = some (.cells #[(.slice A0_0 l0_0.length c0_0), .int .i16 a0_1, .int .i16 a0_2, .int .i16 a0_3, .int .i16 a0_4, .bool a0_5] 29 (0, 0))) ∧ za (w'.heap[gb159]? = some (.cells #[.func (.func fA) #[] caps] 97 (0, 0))) ∧ za (Below w.heap.size w w'))
 case atStart => exact ⟨(t163), (y164), (by first | rfl | (simp; done) | (simp [*]; done)), H', ⟨Nat.le_refl _⟩, ⟨uR HO162⟩, ⟨uR HO166⟩, ⟨uK BK158⟩, ⟨uK BK159⟩, ⟨sB⟩⟩
 case round =>
  clear H'
  try clear c1
  try clear p2
  try clear c5
  try clear c5b0
  try clear c6
  try clear c8
  try clear c14
  try clear hcz11_0 hcz11_1 hcz11_2 hcz11_3 hcz11_4 hcz11_5
  try clear hcz15_0 hcz15_1 hcz15_2 hcz15_3 hcz15_4 hcz15_5
  try clear hcz17_0 hcz17_1 hcz17_2 hcz17_3 hcz17_4 hcz17_5
  try clear hcz9_0 hcz9_1 hcz9_2 hcz9_3 hcz9_4 hcz9_5
  try clear hfz11_0 hfz11_1 hfz11_2 hfz11_3 hfz11_4 hfz11_5
  try clear hfz15_0 hfz15_1 hfz15_2 hfz15_3 hfz15_4 hfz15_5
  try clear hfz17_0 hfz17_1 hfz17_2 hfz17_3 hfz17_4 hfz17_5
  try clear hfz9_0 hfz9_1 hfz9_2 hfz9_3 hfz9_4 hfz9_5
  obtain ⟨x7_1, x8_1, rfl, HA, HK1, HO_6, HO_8, BK158, BK159, HB⟩ := hrel
  cases gk with
  | zero => exact absurd HA.out (by simp [impl_Puzzle_wayTo.l0])
  | succ k1 =>
   have H := HA.out
   clear HA
   simp only [impl_Puzzle_wayTo.l0] at H
   by_cases c20 : 0 ≤ x7_1
   ·rw [if_pos c20] at H
    have c20b0 : decide (0 ≤ x7_1) = true := decide_eq_true c20
    clear c20
    by_cases c21 : x7_1 < (t160.length : Int)
    ·rw [if_pos c21] at H
     have c21b0 : decide (x7_1 < (t160.length : Int)) = true := decide_eq_true c21
     clear c21
     by_cases c22 : ((zq t160 x7_1).f1) ≥ 0
     ·rw [if_pos c22] at H
      have c22b0 : decide (0 ≤ ((zq t160 x7_1).f1)) = true := decide_eq_true c22
      clear c22
      by_cases c23 : x8_1.length < 46912496118442
      ·rw [if_pos c23] at H
       have LMc23 := za.mk c23
       clear c23
       obtain ⟨y169, hy169⟩ : ∃ y_ : List (S80), y_ = (x8_1 ++ [(⟨(zq t160 x7_1).f2.f0, (zq t160 x7_1).f2.f1, (zq t160 x7_1).f2.f2⟩ : S80)]) := ⟨_, rfl⟩
       replace H : (impl_Puzzle_wayTo.l0 k1 t160 ((zq t160 x7_1).f1) y169) = some (r1, r2) := by first | (rw [hy169]; with_reducible exact H) | (have H2_ := (Option.bind_some _ _).symm.trans H; rw [hy169]; with_reducible exact H2_) | (have H2_ := (Option.bind_some _ _).symm.trans H; with_reducible exact H2_) | with_reducible exact H | (rw [hy169]; exact H) | exact H
       have Ny169 := za.mk hy169
       clear hy169
       have H' := za.mk H
       clear H
       have p167 : 0 ≤ (x7_1 : Int) := of_decide_eq_true (by first | (with_reducible assumption) | assumption)
       have q167 : x7_1 < (t160.length : Int) := of_decide_eq_true (by first | (with_reducible assumption) | assumption)
       obtain ⟨ad167, e167, hx167_0, hx167_1, hx167_2, hx167_3, hx167_4, hx167_5, hx167_6, hx167_7, hx167_8⟩ := zwd (Kd.R_reads' HO_6.out).2.2 x7_1 p167 q167
       cases e167
       replace p167 := eq_true p167
       replace q167 := eq_true q167
       have p168 : 0 ≤ (x7_1 : Int) := of_decide_eq_true (by first | (with_reducible assumption) | assumption)
       have q168 : x7_1 < (t160.length : Int) := of_decide_eq_true (by first | (with_reducible assumption) | assumption)
       obtain ⟨ad168, e168, hx168_0, hx168_1, hx168_2, hx168_3, hx168_4, hx168_5, hx168_6, hx168_7, hx168_8⟩ := zwd (Kd.R_reads' HO_6.out).2.2 x7_1 p168 q168
       obtain rfl : ad167 = ad168 := (by injection e168)
       replace p168 := eq_true p168
       replace q168 := eq_true q168
       go_wp2_with (first | ((with_reducible refine zdb (b := .append) (xs := #[.tmp 28, .tmp 34]) rfl ?_); at_builtin; refine Kd.R_append k80 (w0 := w) w.heap.size rfl (.tmp 28) (.tmp 34) 40 80 (.agg #[(.int .i8 0), (.int .i8 0), (.int .i8 0)]) 3 rfl Try.underlying40 zjd rfl (by decide) (by omega) u8 x8_1 (⟨(zq t160 x7_1).f2.f0, (zq t160 x7_1).f2.f1, (zq t160 x7_1).f2.f2⟩ : S80) [.int .i8 ((zq t160 x7_1).f2.f0), .int .i8 ((zq t160 x7_1).f2.f1), .int .i8 ((zq t160 x7_1).f2.f2)] (fun _ => True) (fun _ => False) rfl rfl ?aP (fun _ hk => hk.elim) ?aF ?aO ?aB ?aS ?aL ?_; (case aP => exact zmb _ _ _ (⟨(zq t160 x7_1).f2.f0, (zq t160 x7_1).f2.f1, (zq t160 x7_1).f2.f2⟩ : S80)); (case aB => exact sB); (case aF => exact (fun _ _ => trivial)); (case aO => exact (uR HO_8)); (case aS => exact (zz sB)); (case aL => have := LMc23.out; omega); intro v170 w25 ho hb hg hat; rw [← Ny169.out] at ho; have HO171 := za.mk ho; replace HO_6 := za.mk (Kd.R_over' (uR HO_6) (Kd.R_typed (uR HO_8)) (by decide) hg); replace BK158 := za.mk (zja (g := gb158) (o := .cells #[.slice A0_0 l0_0.length c0_0, .int .i16 a0_1, .int .i16 a0_2, .int .i16 a0_3, .int .i16 a0_4, .bool a0_5] 29 (0, 0)) (uK BK158) hg (Kd.R_ne HO_8.out BK158.out (by decide))); replace BK159 := za.mk (zja (g := gb159) (o := .cells #[.func (.func fA) #[] caps] 97 (0, 0)) (uK BK159) hg (Kd.R_ne HO_8.out BK159.out (by decide))); replace HB := za.mk hb; clear HO_8; clear ho hb hg hat; have p172 : 0 ≤ (x7_1 : Int) := of_decide_eq_true (by first | (with_reducible assumption) | assumption); have q172 : x7_1 < (t160.length : Int) := of_decide_eq_true (by first | (with_reducible assumption) | assumption); obtain ⟨ad172, e172, hx172_0, hx172_1, hx172_2, hx172_3, hx172_4, hx172_5, hx172_6, hx172_7, hx172_8⟩ := zwd (Kd.R_reads' HO_6.out).2.2 x7_1 p172 q172; obtain rfl : ad167 = ad172 := (by injection e172); replace p172 := eq_true p172; replace q172 := eq_true q172))
       go_roundg k1
       case measure => have := HK1.out; omega
       case rel => exact ⟨((zq t160 x7_1).f1), (y169), (by first | rfl | (simp; done) | (simp [*]; done)), H', ⟨by have := HK1.out; omega⟩, ⟨uR HO_6⟩, ⟨uR HO171⟩, ⟨uK BK158⟩, ⟨uK BK159⟩, ⟨sB⟩⟩
      rw [if_neg c23] at H
      exact absurd H (by simp)
     rw [if_neg c22] at H
     have c22b0 : decide (0 ≤ ((zq t160 x7_1).f1)) = false := decide_eq_false c22
     clear c22
     replace H := Option.bind_eq_some_iff.mp H
     obtain ⟨t173, A260, H⟩ := H
     replace H : (some (t173, 0)) = some (r1, r2) := H
     have A26 := za.mk A260
     clear A260
     simp only [Option.some.injEq, Prod.mk.injEq] at H
     obtain ⟨rfl, rfl⟩ := H
     have p167 : 0 ≤ (x7_1 : Int) := of_decide_eq_true (by first | (with_reducible assumption) | assumption)
     have q167 : x7_1 < (t160.length : Int) := of_decide_eq_true (by first | (with_reducible assumption) | assumption)
     obtain ⟨ad167, e167, hx167_0, hx167_1, hx167_2, hx167_3, hx167_4, hx167_5, hx167_6, hx167_7, hx167_8⟩ := zwd (Kd.R_reads' HO_6.out).2.2 x7_1 p167 q167
     cases e167
     replace p167 := eq_true p167
     replace q167 := eq_true q167
     obtain ⟨Ao28, co28, eo28⟩ := Kd.R_slice HO_8.out
     subst eo28
     go_wp2_with (first | ((with_reducible refine zl (f := 100) rfl ?_); refine gz (some 37) Try.func100 #[.slice Ao28 x8_1.length co28] rfl rfl ?_; (with_reducible refine (slices_ReverseM.calls k1 (fun k_ => some k_ = (.slice Ao28 x8_1.length co28 : Value).ownBlock) (.slice Ao28 x8_1.length co28) x8_1 t173 w _ ?side1 ?side2 A26.out).mono ?_); (case side1 => repeat (first | (with_reducible first | exact HB.out | apply zy | apply zm | apply zv | refine zt ?_ GE158.out | refine zt ?_ GE159.out) | exact HB.out)); (case side2 => exact Kd.R_tight rfl HO_8.out); rintro e w29 ⟨rfl, hy0, hb, hkp⟩; refine ⟨_, rfl, ?_⟩; replace HO_6 := za.mk (Kd.R_mono (ok' := fun k_ => True) (Kd.R_keptB ((Kd.R_apart' HO_6.out (Kd.R_typed HO_8.out) (by decide))) hkp (fun k_ hk_ hs_ => (hk_.2) hs_)) (fun k_ hk_ => trivial)); replace BK158 := za.mk (zub (uK BK158) hkp (fun hs_ => (fun e_ => (Kd.R_ne HO_8.out BK158.out (by decide)) e_) hs_)); replace BK159 := za.mk (zub (uK BK159) hkp (fun hs_ => (fun e_ => (Kd.R_ne HO_8.out BK159.out (by decide)) e_) hs_)); replace HO_8 := za.mk (Kd.R_reok rfl hy0 (fun k_ e_ => HO_8.out.1 k_ e_)); replace HB := za.mk hb; (try clear hb); (try clear hkp); (try clear hy0)))
     go_ret2
     exact ⟨_, by first | rfl | (simp [zj, zk] <;> rfl) | (simp [*, zj, zk] <;> rfl), by (with_reducible repeat (first | apply Kd.R_alloc | apply Kd.R_drewN | apply Kd.R_drew)); exact HO_8.out, sB⟩
    rw [if_neg c21] at H
    exact absurd H (by simp)
   rw [if_neg c20] at H
   exact absurd H (by simp)
end Go.Proofs.Yteciomagemjjaaa.J
