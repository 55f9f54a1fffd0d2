-- Written by wip/tools/myprint.py, a program of this session, by way of the kit's print.
import Derived.Test.YtmfbcklaomigaaaNx0
import Derived.Test.YtmfbcklaomigaaaNx2
import Derived.Test.YtmfbcklaomigaaaNx3
import Derived.Test.YtmfbcklaomigaaaLPrN
namespace Go.Proofs.Ytmfbcklaomigaaa.N
open Go.RowKit Go.Proofs.YtmfbcklaomigaaaW.PrintWords Go.Proofs.YtmfbcklaomigaaaW.PrintLast Go.Proofs.YtmfbcklaomigaaaW.PrintMore
attribute [local go_sem] zqa zpa zwa zxa zla zka zra zta   -- for this text's walks alone
set_option linter.unusedVariables false
set_option linter.unusedSimpArgs false

/-! ### spec_l00Src_one: function 96 -/
def spec_l00Src_one.f (s0_0 : List Int) (s0_1 : Int) (s0_2 : Int) (a1 : Int) : Option (Bool × Int × Int) := (spec_l00Src_pick.f s0_0 s0_1 s0_2 a1).bind fun bt158 => (some ((bt158.1 == 0), bt158.2.1, bt158.2.2))
set_option maxHeartbeats 8000000 in
set_option maxRecDepth 100000 in
theorem spec_l00Src_one.calls (g : Nat) (s0_0 : List Int) (s0_1 : Int) (s0_2 : Int) (a1 : Int) (r1 : Bool) (r2 : Int) (r3 : Int) (w0 w : World) (hI : zg w0 w g s0_0 s0_1 s0_2) (hB : Below w0.heap.size w0 w) (h : spec_l00Src_one.f s0_0 s0_1 s0_2 a1 = some (r1, r2, r3)) :
  Calls Try.prog 96 #[.pointer (some ⟨g, 0, none⟩), .int .i64 a1] w fun e w' => e = .returned (.bool r1) ∧ zg w0 w' g s0_0 r2 r3 ∧ Below w0.heap.size w0 w' ∧ zy w w' g none := by
 have HI0 := za.mk hI
 have HK := za.mk (zy.refl w g none)
 have HL := za.mk hB.size
 clear hI
 have HW0 := za.mk hB.size
 have HB := za.mk hB
 clear hB
 have H : ((spec_l00Src_pick.f s0_0 s0_1 s0_2 a1).bind fun bt158 => (some ((bt158.1 == 0), bt158.2.1, bt158.2.2))) = some (r1, r2, r3) := h
 clear h
 replace H := Option.bind_eq_some_iff.mp H
 obtain ⟨⟨t158, t159, t160⟩, A30, H⟩ := H
 replace H : (some ((t158 == 0), t159, t160)) = some (r1, r2, r3) := H
 have A3 := za.mk A30
 clear A30
 simp only [Option.some.injEq, Prod.mk.injEq] at H
 obtain ⟨rfl, rfl, rfl⟩ := H
 go_enter Try.func96, Try.ntmps96
 go_wp2_with (first | ((with_reducible refine zo (f := 40) rfl ?_); refine gz (some 7) Try.func40 #[.pointer (some ⟨g, 0, none⟩), .int .i64 a1] rfl rfl ?_; (with_reducible refine (spec_l00Src_pick.calls g s0_0 s0_1 s0_2 a1 t158 t159 t160 w0 _ ?side1 ?side2 A3.out).mono ?_); (case side1 => repeat (first | (with_reducible first | exact HI0.out | apply zg.alloc | apply zg.drewN | apply zg.drew | apply zg.set_1 | apply zg.set_2) | exact HI0.out)); (case side2 => repeat (first | (with_reducible first | exact HB.out | apply zw | apply zp | apply zt | refine zz ?_ (zg.ge HI0.out)) | exact HB.out)); rintro e w4 ⟨rfl, hi, hb, hk⟩; refine ⟨_, rfl, ?_⟩; replace HK := za.mk (zy.trans (by repeat (first | (with_reducible first | exact HK.out | apply zy.set_ | apply zea | apply zha | apply zca) | exact HK.out)) hk (.inl rfl)); replace HB := za.mk hb; replace HI0 := za.mk hi; try clear hb))
 go_ret
 exact ⟨by first | rfl | (simp [zk, zj] <;> rfl) | (simp [*, zk, zj] <;> rfl), by repeat (first | (with_reducible first | exact HI0.out | apply zg.alloc | apply zg.drewN | apply zg.drew | apply zg.set_1 | apply zg.set_2) | exact HI0.out), by repeat (first | (with_reducible first | exact HB.out | apply zw | apply zp | apply zt | refine zz ?_ (zg.ge HI0.out)) | exact HB.out), by repeat (first | (with_reducible first | exact HK.out | apply zy.set_ | apply zea | apply zha | apply zca) | exact HK.out)⟩

/-! ### spec_l04Any: function 97 -/
def spec_l04Any.f (k : Nat) (s0_0 : List Int) (s0_1 : Int) (s0_2 : Int) (a1 : Int) : Option (Int × Int × Int × Int × Int × Int) := (spec_l03Power.f k a1).bind fun t162 => ((spec_l00Src_pick.f s0_0 s0_1 s0_2 t162).bind fun bt163 => ((spec_l04At.f k a1 bt163.1).bind fun bt166 => (some (bt166.1, bt166.2.1, bt166.2.2.1, bt166.2.2.2, bt163.2.1, bt163.2.2))))
set_option maxHeartbeats 8000000 in
set_option maxRecDepth 100000 in
theorem spec_l04Any.calls (k : Nat) (g : Nat) (s0_0 : List Int) (s0_1 : Int) (s0_2 : Int) (a1 : Int) (r1 : Int) (r2 : Int) (r3 : Int) (r4 : Int) (r5 : Int) (r6 : Int) (w0 w : World) (hI : zg w0 w g s0_0 s0_1 s0_2) (hB : Below w0.heap.size w0 w) (h : spec_l04Any.f k s0_0 s0_1 s0_2 a1 = some (r1, r2, r3, r4, r5, r6)) :
  Calls Try.prog 97 #[.pointer (some ⟨g, 0, none⟩), .int .i64 a1] w fun e w' => e = .returned (.agg #[.int .i8 r1, .int .i8 r2, .int .i8 r3, .int .i8 r4]) ∧ zg w0 w' g s0_0 r5 r6 ∧ Below w0.heap.size w0 w' ∧ zy w w' g none := by
 have hu43 := Try.underlying43
 have HI0 := za.mk hI
 have HK := za.mk (zy.refl w g none)
 have HL := za.mk hB.size
 clear hI
 have HW0 := za.mk hB.size
 have HB := za.mk hB
 clear hB
 have H : ((spec_l03Power.f k a1).bind fun t162 => ((spec_l00Src_pick.f s0_0 s0_1 s0_2 t162).bind fun bt163 => ((spec_l04At.f k a1 bt163.1).bind fun bt166 => (some (bt166.1, bt166.2.1, bt166.2.2.1, bt166.2.2.2, bt163.2.1, bt163.2.2))))) = some (r1, r2, r3, r4, r5, r6) := h
 clear h
 replace H := Option.bind_eq_some_iff.mp H
 obtain ⟨t162, A30, H⟩ := H
 replace H : ((spec_l00Src_pick.f s0_0 s0_1 s0_2 t162).bind fun bt163 => ((spec_l04At.f k a1 bt163.1).bind fun bt166 => (some (bt166.1, bt166.2.1, bt166.2.2.1, bt166.2.2.2, bt163.2.1, bt163.2.2)))) = some (r1, r2, r3, r4, r5, r6) := H
 have A3 := za.mk A30
 clear A30
 replace H := Option.bind_eq_some_iff.mp H
 obtain ⟨⟨t163, t164, t165⟩, A40, H⟩ := H
 replace H : ((spec_l04At.f k a1 t163).bind fun bt166 => (some (bt166.1, bt166.2.1, bt166.2.2.1, bt166.2.2.2, t164, t165))) = some (r1, r2, r3, r4, r5, r6) := H
 have A4 := za.mk A40
 clear A40
 replace H := Option.bind_eq_some_iff.mp H
 obtain ⟨⟨t166, t167, t168, t169⟩, A50, H⟩ := H
 replace H : (some (t166, t167, t168, t169, t164, t165)) = some (r1, r2, r3, r4, r5, r6) := H
 have A5 := za.mk A50
 clear A50
 simp only [Option.some.injEq, Prod.mk.injEq] at H
 obtain ⟨rfl, rfl, rfl, rfl, rfl, rfl⟩ := H
 go_enter Try.func97, Try.ntmps97
 go_wp2_with (first | ((with_reducible refine zn (N := 4) rfl ?_); refine bx (N := 4) #[.int .i8 0, .int .i8 0, .int .i8 0, .int .i8 0] 43 rfl ?_; intro gb161 hg w6 hbox hb; have BK161 := za.mk hbox; have GW161 := za.mk ((by rw [hg]; exact (zrb (w := w) (g := g) (row := none) (by repeat (first | (with_reducible first | exact HK.out | apply zy.set_ | apply zea | apply zha | apply zca) | exact HK.out))) : w.heap.size ≤ gb161)); have GE161 := za.mk ((Nat.le_trans HW0.out (by rw [hg]; exact (zrb (w := w) (g := g) (row := none) (by repeat (first | (with_reducible first | exact HK.out | apply zy.set_ | apply zea | apply zha | apply zca) | exact HK.out))) : w.heap.size ≤ gb161) : w0.heap.size ≤ gb161)); have NB0_161 := za.mk ((by rw [hg]; exact Nat.ne_of_lt (zg.lt (show zg w0 _ g s0_0 s0_1 s0_2 from by repeat (first | (with_reducible first | exact HI0.out | apply zg.alloc | apply zg.drewN | apply zg.drew | apply zg.set_1 | apply zg.set_2) | exact HI0.out))) : g ≠ gb161)); have NB161_0 := za.mk ((by rw [hg]; exact Nat.ne_of_gt (zg.lt (show zg w0 _ g s0_0 s0_1 s0_2 from by repeat (first | (with_reducible first | exact HI0.out | apply zg.alloc | apply zg.drewN | apply zg.drew | apply zg.set_1 | apply zg.set_2) | exact HI0.out))) : gb161 ≠ g)); replace HK := za.mk (zy.trans (by repeat (first | (with_reducible first | exact HK.out | apply zy.set_ | apply zea | apply zha | apply zca) | exact HK.out)) (zy.of_below hb g none) (.inl rfl)); replace HB := za.mk (ze (by repeat (first | (with_reducible first | exact HB.out | apply zw | apply zp | apply zt | refine zz ?_ (zg.ge HI0.out)) | exact HB.out)) hb); replace HI0 := za.mk (zg.below (by repeat (first | (with_reducible first | exact HI0.out | apply zg.alloc | apply zg.drewN | apply zg.drew | apply zg.set_1 | apply zg.set_2) | exact HI0.out)) hb); clear hb hbox hg) | ((with_reducible refine zo (f := 52) rfl ?_); refine gz (some 8) Try.func52 #[.int .i64 a1] rfl rfl ?_; (with_reducible refine (spec_l03Power.calls k a1 t162 _ A3.out).mono ?_); rintro e w' ⟨rfl, ⟨nd, rfl⟩⟩; refine ⟨_, rfl, ?_⟩; (try (rw [zua w6]; generalize hq_ : World.drewN w6 _ = w6; have n0_ : za (w6.heap[gb161]? = some (.cells #[.int .i8 0, .int .i8 0, .int .i8 0, .int .i8 0] 43 (0, 0))) := ⟨by rw [← hq_]; exact (uK BK161)⟩; have n1_ : za (zg w0 w6 g s0_0 s0_1 s0_2) := ⟨by rw [← hq_]; exact (by repeat (first | (with_reducible first | exact HI0.out | apply zg.alloc | apply zg.drewN | apply zg.drew | apply zg.set_1 | apply zg.set_2 | refine zg.far ?_ NB0_161.out _) | exact HI0.out))⟩; have n2_ : za (zy w w6 g none) := ⟨by rw [← hq_]; exact (by repeat (first | (with_reducible first | exact HK.out | apply zy.set_ | apply zea | apply zha | apply zca | refine zma ?_ GW161.out _) | exact HK.out))⟩; have n3_ : za (Below w0.heap.size w0 w6) := ⟨by rw [← hq_]; exact (by repeat (first | (with_reducible first | exact HB.out | apply zw | apply zp | apply zt | refine zz ?_ (zg.ge HI0.out) | refine zz ?_ GE161.out) | exact HB.out))⟩; clear BK161 HI0 HK HB hq_; have BK161 := n0_; have HI0 := n1_; have HK := n2_; have HB := n3_; clear n0_ n1_ n2_ n3_))) | ((with_reducible refine zo (f := 40) rfl ?_); refine gz (some 9) Try.func40 #[.pointer (some ⟨g, 0, none⟩), .int .i64 t162] rfl rfl ?_; (with_reducible refine (spec_l00Src_pick.calls g s0_0 s0_1 s0_2 t162 t163 t164 t165 w0 _ ?side1 ?side2 A4.out).mono ?_); (case side1 => repeat (first | (with_reducible first | exact HI0.out | apply zg.alloc | apply zg.drewN | apply zg.drew | apply zg.set_1 | apply zg.set_2 | refine zg.far ?_ NB0_161.out _) | exact HI0.out)); (case side2 => repeat (first | (with_reducible first | exact HB.out | apply zw | apply zp | apply zt | refine zz ?_ (zg.ge HI0.out) | refine zz ?_ GE161.out) | exact HB.out)); rintro e w7 ⟨rfl, hi, hb, hk⟩; refine ⟨_, rfl, ?_⟩; replace BK161 := za.mk (zy.blk hk (g' := gb161) (o := .cells #[.int .i8 0, .int .i8 0, .int .i8 0, .int .i8 0] 43 (0, 0)) (uK BK161) NB161_0.out (by simp)); replace HK := za.mk (zy.trans (by repeat (first | (with_reducible first | exact HK.out | apply zy.set_ | apply zea | apply zha | apply zca | refine zma ?_ GW161.out _) | exact HK.out)) hk (.inl rfl)); replace HB := za.mk hb; replace HI0 := za.mk hi; try clear hb) | ((with_reducible refine zo (f := 53) rfl ?_); refine gz (some 10) Try.func53 #[.int .i64 a1, .int .i64 t163] rfl rfl ?_; (with_reducible refine (spec_l04At.calls k a1 t163 t166 t167 t168 t169 _ A5.out).mono ?_); rintro e w8 ⟨rfl, hb⟩; refine ⟨_, rfl, ?_⟩; replace BK161 := dK BK161 hb; replace HK := za.mk (zy.trans (by repeat (first | (with_reducible first | exact HK.out | apply zy.set_ | apply zea | apply zha | apply zca | refine zma ?_ GW161.out _) | exact HK.out)) (zy.of_below hb g none) (.inl rfl)); replace HB := za.mk (ze (by repeat (first | (with_reducible first | exact HB.out | apply zw | apply zp | apply zt | refine zz ?_ (zg.ge HI0.out) | refine zz ?_ GE161.out) | exact HB.out)) hb); replace HI0 := za.mk (zg.below (by repeat (first | (with_reducible first | exact HI0.out | apply zg.alloc | apply zg.drewN | apply zg.drew | apply zg.set_1 | apply zg.set_2 | refine zg.far ?_ NB0_161.out _) | exact HI0.out)) hb); try clear hb; have hnb9 := NB161_0.out; have hnc9 := NB0_161.out; obtain ⟨hcz10_0, hcz10_1, hcz10_2, hcz10_3⟩ := xc4 BK161; obtain ⟨hfz10_0, hfz10_1, hfz10_2, hfz10_3⟩ := xf4 BK161))
 refine bodyPost_ret (results_cell_row rfl _ _ gb161 43 #[.int .i8 t166, .int .i8 t167, .int .i8 t168, .int .i8 t169] (0, 0) _ rfl (by (with_reducible repeat (first | refine zc ?_ _ | refine zd ?_ | refine zb ?_ _)); refine zl (cs := #[.int .i8 t166, .int .i8 t167, .int .i8 t168, .int .i8 0]) ?_ 3 _ rfl; (with_reducible repeat (first | refine zc ?_ _ | refine zd ?_ | refine zb ?_ _)); refine zl (cs := #[.int .i8 t166, .int .i8 t167, .int .i8 0, .int .i8 0]) ?_ 2 _ rfl; (with_reducible repeat (first | refine zc ?_ _ | refine zd ?_ | refine zb ?_ _)); refine zl (cs := #[.int .i8 t166, .int .i8 0, .int .i8 0, .int .i8 0]) ?_ 1 _ rfl; (with_reducible repeat (first | refine zc ?_ _ | refine zd ?_ | refine zb ?_ _)); refine zl (cs := #[.int .i8 0, .int .i8 0, .int .i8 0, .int .i8 0]) ?_ 0 _ rfl; (with_reducible repeat (first | refine zc ?_ _ | refine zd ?_ | refine zb ?_ _)); exact BK161.out) Try.underlying43 rfl (by kernel_rfl)) rfl ?_
 exact ⟨by first | rfl | (simp [zk, zj] <;> rfl) | (simp [*, zk, zj] <;> rfl), by repeat (first | (with_reducible first | exact HI0.out | apply zg.alloc | apply zg.drewN | apply zg.drew | apply zg.set_1 | apply zg.set_2 | refine zg.far ?_ NB0_161.out _) | exact HI0.out), by repeat (first | (with_reducible first | exact HB.out | apply zw | apply zp | apply zt | refine zz ?_ (zg.ge HI0.out) | refine zz ?_ GE161.out) | exact HB.out), by repeat (first | (with_reducible first | exact HK.out | apply zy.set_ | apply zea | apply zha | apply zca | refine zma ?_ GW161.out _) | exact HK.out)⟩

end Go.Proofs.Ytmfbcklaomigaaa.N
