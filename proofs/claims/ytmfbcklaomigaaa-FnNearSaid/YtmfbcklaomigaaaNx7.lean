-- Written by wip/tools/myprint.py, a program of this session, by way of the kit's print.
import Derived.Test.YtmfbcklaomigaaaNx0
import Derived.Test.YtmfbcklaomigaaaNx2
import Derived.Test.YtmfbcklaomigaaaNx5
import Derived.Test.YtmfbcklaomigaaaNx6
import Derived.Test.YtmfbcklaomigaaaLPrN
namespace Go.Proofs.Ytmfbcklaomigaaa.N
open Go.RowKit Go.Proofs.YtmfbcklaomigaaaW.PrintWords Go.Proofs.YtmfbcklaomigaaaW.PrintLast Go.Proofs.YtmfbcklaomigaaaW.PrintMore
attribute [local go_sem] zqa zpa zwa zxa zla zka zra zta   -- for this text's walks alone
set_option linter.unusedVariables false
set_option linter.unusedSimpArgs false

/-! ### spec_l04Drawn: function 58 -/
mutual
def spec_l04Drawn.j0 : Nat → Int → Int → Bool → List Int → Int → Int → Int → Int → List (S43) → Option (Int × Int × (List (S43)) × Int × Int)
 | 0, _, _, _, _, _, _, _, _, _ => none
 | k + 1, x3, x4, x28, x1000, x1001, x1002, x187000, x187001, x187002 => if x28 = true then ((spec_l00Src_pick.f x1000 x1001 x1002 7).bind fun bt190 => (spec_l04Drawn.l0 k x3 (wrap64 (1 + bt190.1)) x1000 bt190.2.1 bt190.2.2 (IntKind.i8.wrap (x3)) (IntKind.i8.wrap (x4)) ([] : List (S43)))) else (some (x187000, x187001, x187002, x1001, x1002))
def spec_l04Drawn.l0 : Nat → Int → Int → List Int → Int → Int → Int → Int → List (S43) → Option (Int × Int × (List (S43)) × Int × Int)
 | 0, _, _, _, _, _, _, _, _ => none
 | k + 1, x3, x7, x1000, x1001, x1002, x187000, x187001, x187002 => if x7 > 0 then ((spec_l04Any.f k x1000 x1001 x1002 x3).bind fun bt193 => (if x187002.length < 35184372088832 then (spec_l04Drawn.l0 k x3 (wrap64 (x7 - 1)) x1000 bt193.2.2.2.2.1 bt193.2.2.2.2.2 x187000 x187001 (x187002 ++ [(⟨bt193.1, bt193.2.1, bt193.2.2.1, bt193.2.2.2.1⟩ : S43)])) else (none))) else (some (x187000, x187001, x187002, x1001, x1002))
end
def spec_l04Drawn.f (k : Nat) (s0_0 : List Int) (s0_1 : Int) (s0_2 : Int) : Option (Int × Int × (List (S43)) × Int × Int) := (spec_l00Src_pick.f s0_0 s0_1 s0_2 4).bind fun bt171 => ((spec_l00Src_pick.f s0_0 bt171.2.1 bt171.2.2 3).bind fun bt174 => ((spec_l00Src_pick.f s0_0 bt174.2.1 bt174.2.2 4).bind fun bt177 => ((spec_MakeFixed.f k (wrap64 (1 + bt171.1)) bt174.1 (wrap64 (3 * (wrap64 (1 + bt177.1))))).bind fun bt180 => (if bt180.2.2.2 = 0 then ((spec_l00Src_one.f s0_0 bt177.2.1 bt177.2.2 4).bind fun bt187 => (spec_l04Drawn.j0 k (wrap64 (1 + bt171.1)) bt174.1 bt187.1 s0_0 bt187.2.1 bt187.2.2 bt180.1 bt180.2.1 bt180.2.2.1)) else (spec_l04Drawn.j0 k (wrap64 (1 + bt171.1)) bt174.1 true s0_0 bt177.2.1 bt177.2.2 bt180.1 bt180.2.1 bt180.2.2.1)))))
def spec_l04Drawn.T9 : Bool × List (List Nat × List Nat) := (true, [([], []), ([0], [0]), ([], []), ([], []), ([2, 3], [2, 3]), ([4], [4]), ([1, 5, 4], [1, 5]), ([0, 1, 2, 3, 4, 5, 6], []), ([7, 6, 6, 0, 1, 2, 3, 4, 5, 6], [6, 7])])
def spec_l04Drawn.B9 : List Nat := [0, 1, 0, 0, 12, 28, 63, 127, 255]
theorem spec_l04Drawn.tab9 : rtab .any (zme Try.f58 9) = spec_l04Drawn.T9 := by kernel_rfl
theorem spec_l04Drawn.bits9 : zpb spec_l04Drawn.T9.2 spec_l04Drawn.B9 = true := by kernel_rfl
set_option maxHeartbeats 8000000 in
set_option maxRecDepth 100000 in
theorem spec_l04Drawn.calls (k : Nat) (g : Nat) (s0_0 : List Int) (s0_1 : Int) (s0_2 : Int) (r1 : Int) (r2 : Int) (r3 : List (S43)) (r4 : Int) (r5 : Int) (w0 w : World) (hI : zg w0 w g s0_0 s0_1 s0_2) (hB : Below w0.heap.size w0 w) (h : spec_l04Drawn.f k s0_0 s0_1 s0_2 = some (r1, r2, r3, r4, r5)) :
  Calls Try.prog 58 #[.pointer (some ⟨g, 0, none⟩)] w fun e w' => ∃ v2_ : Value, e = .returned (.agg #[.int .i8 r1, .int .i8 r2, v2_]) ∧ Kd.R k43 43 w' w.heap.size (fun _ => True) v2_ r3 ∧ zg w0 w' g s0_0 r4 r5 ∧ Below w0.heap.size w0 w' ∧ zy w w' g none := by
 have hu28 := Try.underlying28
 have HI0 := za.mk hI
 have HK := za.mk (zy.refl w g none)
 have HL := za.mk hB.size
 clear hI
 have HW0 := za.mk hB.size
 have HB := za.mk hB
 clear hB
 have H : ((spec_l00Src_pick.f s0_0 s0_1 s0_2 4).bind fun bt171 => ((spec_l00Src_pick.f s0_0 bt171.2.1 bt171.2.2 3).bind fun bt174 => ((spec_l00Src_pick.f s0_0 bt174.2.1 bt174.2.2 4).bind fun bt177 => ((spec_MakeFixed.f k (wrap64 (1 + bt171.1)) bt174.1 (wrap64 (3 * (wrap64 (1 + bt177.1))))).bind fun bt180 => (if bt180.2.2.2 = 0 then ((spec_l00Src_one.f s0_0 bt177.2.1 bt177.2.2 4).bind fun bt187 => (spec_l04Drawn.j0 k (wrap64 (1 + bt171.1)) bt174.1 bt187.1 s0_0 bt187.2.1 bt187.2.2 bt180.1 bt180.2.1 bt180.2.2.1)) else (spec_l04Drawn.j0 k (wrap64 (1 + bt171.1)) bt174.1 true s0_0 bt177.2.1 bt177.2.2 bt180.1 bt180.2.1 bt180.2.2.1)))))) = some (r1, r2, r3, r4, r5) := h
 clear h
 replace H := Option.bind_eq_some_iff.mp H
 obtain ⟨⟨t171, t172, t173⟩, A20, H⟩ := H
 replace H : ((spec_l00Src_pick.f s0_0 t172 t173 3).bind fun bt174 => ((spec_l00Src_pick.f s0_0 bt174.2.1 bt174.2.2 4).bind fun bt177 => ((spec_MakeFixed.f k (wrap64 (1 + t171)) bt174.1 (wrap64 (3 * (wrap64 (1 + bt177.1))))).bind fun bt180 => (if bt180.2.2.2 = 0 then ((spec_l00Src_one.f s0_0 bt177.2.1 bt177.2.2 4).bind fun bt187 => (spec_l04Drawn.j0 k (wrap64 (1 + t171)) bt174.1 bt187.1 s0_0 bt187.2.1 bt187.2.2 bt180.1 bt180.2.1 bt180.2.2.1)) else (spec_l04Drawn.j0 k (wrap64 (1 + t171)) bt174.1 true s0_0 bt177.2.1 bt177.2.2 bt180.1 bt180.2.1 bt180.2.2.1))))) = some (r1, r2, r3, r4, r5) := H
 have A2 := za.mk A20
 clear A20
 replace H := Option.bind_eq_some_iff.mp H
 obtain ⟨⟨t174, t175, t176⟩, A30, H⟩ := H
 replace H : ((spec_l00Src_pick.f s0_0 t175 t176 4).bind fun bt177 => ((spec_MakeFixed.f k (wrap64 (1 + t171)) t174 (wrap64 (3 * (wrap64 (1 + bt177.1))))).bind fun bt180 => (if bt180.2.2.2 = 0 then ((spec_l00Src_one.f s0_0 bt177.2.1 bt177.2.2 4).bind fun bt187 => (spec_l04Drawn.j0 k (wrap64 (1 + t171)) t174 bt187.1 s0_0 bt187.2.1 bt187.2.2 bt180.1 bt180.2.1 bt180.2.2.1)) else (spec_l04Drawn.j0 k (wrap64 (1 + t171)) t174 true s0_0 bt177.2.1 bt177.2.2 bt180.1 bt180.2.1 bt180.2.2.1)))) = some (r1, r2, r3, r4, r5) := H
 have A3 := za.mk A30
 clear A30
 replace H := Option.bind_eq_some_iff.mp H
 obtain ⟨⟨t177, t178, t179⟩, A40, H⟩ := H
 replace H : ((spec_MakeFixed.f k (wrap64 (1 + t171)) t174 (wrap64 (3 * (wrap64 (1 + t177))))).bind fun bt180 => (if bt180.2.2.2 = 0 then ((spec_l00Src_one.f s0_0 t178 t179 4).bind fun bt187 => (spec_l04Drawn.j0 k (wrap64 (1 + t171)) t174 bt187.1 s0_0 bt187.2.1 bt187.2.2 bt180.1 bt180.2.1 bt180.2.2.1)) else (spec_l04Drawn.j0 k (wrap64 (1 + t171)) t174 true s0_0 t178 t179 bt180.1 bt180.2.1 bt180.2.2.1))) = some (r1, r2, r3, r4, r5) := H
 have A4 := za.mk A40
 clear A40
 replace H := Option.bind_eq_some_iff.mp H
 obtain ⟨⟨t180, t181, t182, t185⟩, A50, H⟩ := H
 replace H : (if t185 = 0 then ((spec_l00Src_one.f s0_0 t178 t179 4).bind fun bt187 => (spec_l04Drawn.j0 k (wrap64 (1 + t171)) t174 bt187.1 s0_0 bt187.2.1 bt187.2.2 t180 t181 t182)) else (spec_l04Drawn.j0 k (wrap64 (1 + t171)) t174 true s0_0 t178 t179 t180 t181 t182)) = some (r1, r2, r3, r4, r5) := H
 have A5 := za.mk A50
 clear A50
 have HC6 := za.mk H
 clear H
 go_enter Try.func58, Try.ntmps58
 go_upto_region 4 with (first | ((with_reducible refine zn (N := 2) rfl ?_); refine bx (N := 2) #[.int .i8 0, .int .i8 0, .slice none 0 0] 28 rfl ?_; intro gb170 hg w7 hbox hb; have BK170 := za.mk hbox; have GW170 := za.mk ((by rw [hg]; exact (zrb (w := w) (g := g) (row := none) (by repeat (first | (with_reducible first | exact HK.out | apply zy.set_ | apply zea | apply zha | apply zca) | exact HK.out))) : w.heap.size ≤ gb170)); have GE170 := za.mk ((Nat.le_trans HW0.out (by rw [hg]; exact (zrb (w := w) (g := g) (row := none) (by repeat (first | (with_reducible first | exact HK.out | apply zy.set_ | apply zea | apply zha | apply zca) | exact HK.out))) : w.heap.size ≤ gb170) : w0.heap.size ≤ gb170)); have NB0_170 := za.mk ((by rw [hg]; exact Nat.ne_of_lt (zg.lt (show zg w0 _ g s0_0 s0_1 s0_2 from by repeat (first | (with_reducible first | exact HI0.out | apply zg.alloc | apply zg.drewN | apply zg.drew | apply zg.set_1 | apply zg.set_2) | exact HI0.out))) : g ≠ gb170)); have NB170_0 := za.mk ((by rw [hg]; exact Nat.ne_of_gt (zg.lt (show zg w0 _ g s0_0 s0_1 s0_2 from by repeat (first | (with_reducible first | exact HI0.out | apply zg.alloc | apply zg.drewN | apply zg.drew | apply zg.set_1 | apply zg.set_2) | exact HI0.out))) : gb170 ≠ g)); replace HK := za.mk (zy.trans (by repeat (first | (with_reducible first | exact HK.out | apply zy.set_ | apply zea | apply zha | apply zca) | exact HK.out)) (zy.of_below hb g none) (.inl rfl)); replace HB := za.mk (ze (by repeat (first | (with_reducible first | exact HB.out | apply zw | apply zp | apply zt | refine zz ?_ (zg.ge HI0.out)) | exact HB.out)) hb); replace HI0 := za.mk (zg.below (by repeat (first | (with_reducible first | exact HI0.out | apply zg.alloc | apply zg.drewN | apply zg.drew | apply zg.set_1 | apply zg.set_2) | exact HI0.out)) hb); clear hb hbox hg) | ((with_reducible refine zo (f := 40) rfl ?_); refine gz (some 9) Try.func40 #[.pointer (some ⟨g, 0, none⟩), .int .i64 4] rfl rfl ?_; (with_reducible refine (spec_l00Src_pick.calls g s0_0 s0_1 s0_2 4 t171 t172 t173 w0 _ ?side1 ?side2 A2.out).mono ?_); (case side1 => repeat (first | (with_reducible first | exact HI0.out | apply zg.alloc | apply zg.drewN | apply zg.drew | apply zg.set_1 | apply zg.set_2 | refine zg.far ?_ NB0_170.out _) | exact HI0.out)); (case side2 => repeat (first | (with_reducible first | exact HB.out | apply zw | apply zp | apply zt | refine zz ?_ (zg.ge HI0.out) | refine zz ?_ GE170.out) | exact HB.out)); rintro e w8 ⟨rfl, hi, hb, hk⟩; refine ⟨_, rfl, ?_⟩; replace BK170 := za.mk (zy.blk hk (g' := gb170) (o := .cells #[.int .i8 0, .int .i8 0, .slice none 0 0] 28 (0, 0)) (uK BK170) NB170_0.out (by simp)); replace HK := za.mk (zy.trans (by repeat (first | (with_reducible first | exact HK.out | apply zy.set_ | apply zea | apply zha | apply zca | refine zma ?_ GW170.out _) | exact HK.out)) hk (.inl rfl)); replace HB := za.mk hb; replace HI0 := za.mk hi; try clear hb) | ((with_reducible refine zo (f := 40) rfl ?_); refine gz (some 12) Try.func40 #[.pointer (some ⟨g, 0, none⟩), .int .i64 3] rfl rfl ?_; (with_reducible refine (spec_l00Src_pick.calls g s0_0 t172 t173 3 t174 t175 t176 w0 _ ?side1 ?side2 A3.out).mono ?_); (case side1 => repeat (first | (with_reducible first | exact HI0.out | apply zg.alloc | apply zg.drewN | apply zg.drew | apply zg.set_1 | apply zg.set_2 | refine zg.far ?_ NB0_170.out _) | exact HI0.out)); (case side2 => repeat (first | (with_reducible first | exact HB.out | apply zw | apply zp | apply zt | refine zz ?_ (zg.ge HI0.out) | refine zz ?_ GE170.out) | exact HB.out)); rintro e w9 ⟨rfl, hi, hb, hk⟩; refine ⟨_, rfl, ?_⟩; replace BK170 := za.mk (zy.blk hk (g' := gb170) (o := .cells #[.int .i8 0, .int .i8 0, .slice none 0 0] 28 (0, 0)) (uK BK170) NB170_0.out (by simp)); replace HK := za.mk (zy.trans (by repeat (first | (with_reducible first | exact HK.out | apply zy.set_ | apply zea | apply zha | apply zca | refine zma ?_ GW170.out _) | exact HK.out)) hk (.inl rfl)); replace HB := za.mk hb; replace HI0 := za.mk hi; try clear hb) | ((with_reducible refine zo (f := 40) rfl ?_); refine gz (some 17) Try.func40 #[.pointer (some ⟨g, 0, none⟩), .int .i64 4] rfl rfl ?_; (with_reducible refine (spec_l00Src_pick.calls g s0_0 t175 t176 4 t177 t178 t179 w0 _ ?side1 ?side2 A4.out).mono ?_); (case side1 => repeat (first | (with_reducible first | exact HI0.out | apply zg.alloc | apply zg.drewN | apply zg.drew | apply zg.set_1 | apply zg.set_2 | refine zg.far ?_ NB0_170.out _) | exact HI0.out)); (case side2 => repeat (first | (with_reducible first | exact HB.out | apply zw | apply zp | apply zt | refine zz ?_ (zg.ge HI0.out) | refine zz ?_ GE170.out) | exact HB.out)); rintro e w10 ⟨rfl, hi, hb, hk⟩; refine ⟨_, rfl, ?_⟩; replace BK170 := za.mk (zy.blk hk (g' := gb170) (o := .cells #[.int .i8 0, .int .i8 0, .slice none 0 0] 28 (0, 0)) (uK BK170) NB170_0.out (by simp)); replace HK := za.mk (zy.trans (by repeat (first | (with_reducible first | exact HK.out | apply zy.set_ | apply zea | apply zha | apply zca | refine zma ?_ GW170.out _) | exact HK.out)) hk (.inl rfl)); replace HB := za.mk hb; replace HI0 := za.mk hi; try clear hb) | ((with_reducible refine zo (f := 9) rfl ?_); refine gz (some 20) Try.func9 #[.int .i64 (wrap64 (1 + t171)), .int .i64 t174, .int .i64 (wrap64 (3 * (wrap64 (1 + t177))))] rfl rfl ?_; (with_reducible refine (spec_MakeFixed.calls k (wrap64 (1 + t171)) t174 (wrap64 (3 * (wrap64 (1 + t177)))) t180 t181 t182 t185 _ A5.out).mono ?_); rintro e w11 ⟨v183, rfl, ho0, hb⟩; refine ⟨_, rfl, ?_⟩; have HO184 := za.mk (Kd.R_lower ho0 (zrb (w := w) (g := g) (row := none) (by repeat (first | (with_reducible first | exact HK.out | apply zy.set_ | apply zea | apply zha | apply zca | refine zma ?_ GW170.out _) | exact HK.out)))); replace BK170 := dK BK170 hb; replace HK := za.mk (zy.trans (by repeat (first | (with_reducible first | exact HK.out | apply zy.set_ | apply zea | apply zha | apply zca | refine zma ?_ GW170.out _) | exact HK.out)) (zy.of_below hb g none) (.inl rfl)); replace HB := za.mk (ze (by repeat (first | (with_reducible first | exact HB.out | apply zw | apply zp | apply zt | refine zz ?_ (zg.ge HI0.out) | refine zz ?_ GE170.out) | exact HB.out)) hb); replace HI0 := za.mk (zg.below (by repeat (first | (with_reducible first | exact HI0.out | apply zg.alloc | apply zg.drewN | apply zg.drew | apply zg.set_1 | apply zg.set_2 | refine zg.far ?_ NB0_170.out _) | exact HI0.out)) hb); try clear hb) | ((with_reducible refine zn (N := 5) rfl ?_); refine bx (N := 5) #[.int .i8 0, .int .i8 0, .slice none 0 0] 28 rfl ?_; intro gb186 hg w12 hbox hb; have BK186 := za.mk hbox; have GW186 := za.mk ((by rw [hg]; exact (zrb (w := w) (g := g) (row := none) (by repeat (first | (with_reducible first | exact HK.out | apply zy.set_ | apply zea | apply zha | apply zca | refine zma ?_ GW170.out _) | exact HK.out))) : w.heap.size ≤ gb186)); have GE186 := za.mk ((Nat.le_trans HW0.out (by rw [hg]; exact (zrb (w := w) (g := g) (row := none) (by repeat (first | (with_reducible first | exact HK.out | apply zy.set_ | apply zea | apply zha | apply zca | refine zma ?_ GW170.out _) | exact HK.out))) : w.heap.size ≤ gb186) : w0.heap.size ≤ gb186)); have NB170_186 := nK hg BK170; have NB186_170 := za.mk NB170_186.out.symm; have NB0_186 := za.mk ((by rw [hg]; exact Nat.ne_of_lt (zg.lt (show zg w0 _ g s0_0 t178 t179 from by repeat (first | (with_reducible first | exact HI0.out | apply zg.alloc | apply zg.drewN | apply zg.drew | apply zg.set_1 | apply zg.set_2 | refine zg.far ?_ NB0_170.out _) | exact HI0.out))) : g ≠ gb186)); have NB186_0 := za.mk ((by rw [hg]; exact Nat.ne_of_gt (zg.lt (show zg w0 _ g s0_0 t178 t179 from by repeat (first | (with_reducible first | exact HI0.out | apply zg.alloc | apply zg.drewN | apply zg.drew | apply zg.set_1 | apply zg.set_2 | refine zg.far ?_ NB0_170.out _) | exact HI0.out))) : gb186 ≠ g)); replace HO184 := dR HO184 hb; replace BK170 := dK BK170 hb; replace HK := za.mk (zy.trans (by repeat (first | (with_reducible first | exact HK.out | apply zy.set_ | apply zea | apply zha | apply zca | refine zma ?_ GW170.out _) | exact HK.out)) (zy.of_below hb g none) (.inl rfl)); replace HB := za.mk (ze (by repeat (first | (with_reducible first | exact HB.out | apply zw | apply zp | apply zt | refine zz ?_ (zg.ge HI0.out) | refine zz ?_ GE170.out) | exact HB.out)) hb); replace HI0 := za.mk (zg.below (by repeat (first | (with_reducible first | exact HI0.out | apply zg.alloc | apply zg.drewN | apply zg.drew | apply zg.set_1 | apply zg.set_2 | refine zg.far ?_ NB0_170.out _) | exact HI0.out)) hb); clear hb hbox hg; have hnb13 := NB186_170.out; have hnc13 := NB170_186.out; have hnb14 := NB186_0.out; have hnc14 := NB0_186.out; obtain ⟨hcz15_0, hcz15_1, hcz15_2⟩ := xc3 BK186; obtain ⟨hfz15_0, hfz15_1, hfz15_2⟩ := xf3 BK186; obtain ⟨Ao16, co16, eo16⟩ := Kd.R_slice HO184.out; subst eo16))
 (try simp only [Act.put, List.setIfInBounds_toArray, List.set_cons_zero, List.set_cons_succ])
 go_cut [28] (fun v28 wc => ∃ (kq : Nat) (x28_5 : Bool) (x1001_5 : Int) (x1002_5 : Int), v28 = .bool x28_5 ∧ za (spec_l04Drawn.j0 kq (wrap64 (1 + t171)) t174 x28_5 s0_0 x1001_5 x1002_5 t180 t181 t182 = some (r1, r2, r3, r4, r5)) ∧ za (kq ≤ k) ∧ za (Kd.R k43 43 wc w.heap.size (fun _ => True) (.slice Ao16 t182.length co16) t182) ∧ za (wc.heap[gb170]? = some (.cells #[.int .i8 0, .int .i8 0, (.slice none 0 0)] 28 (0, 0))) ∧ za (wc.heap[gb186]? = some (.cells #[.int .i8 t180, .int .i8 t181, (.slice Ao16 t182.length co16)] 28 (0, 0))) ∧ za (zg w0 wc g s0_0 x1001_5 x1002_5) ∧ za (zy w wc g none) ∧ za (Below w0.heap.size w0 wc))
 case first =>
  have H := HC6.out
  clear HC6
  by_cases c17 : t185 = 0
  ·rw [if_pos c17] at H
   have c17b0 : (t185 == 0) = true := beq_iff_eq.mpr c17
   have c17b1 : (t185 != 0) = false := bne_eq_false_iff_eq.mpr c17
   clear c17
   (first | rw [c17b0] | (simp only [zda, zfa]; rw [c17b0]) | skip)
   replace H := Option.bind_eq_some_iff.mp H
   obtain ⟨⟨t187, t188, t189⟩, A180, H⟩ := H
   replace H : (spec_l04Drawn.j0 k (wrap64 (1 + t171)) t174 t187 s0_0 t188 t189 t180 t181 t182) = some (r1, r2, r3, r4, r5) := H
   have A18 := za.mk A180
   clear A180
   have H' := za.mk H
   clear H
   go_wp2_with (first | (go_at_call 96; (with_reducible refine (spec_l00Src_one.calls g s0_0 t178 t179 4 t187 t188 t189 w0 _ ?side1 ?side2 A18.out).mono ?_); (case side1 => repeat (first | (with_reducible first | exact HI0.out | apply zg.alloc | apply zg.drewN | apply zg.drew | apply zg.set_1 | apply zg.set_2 | refine zg.far ?_ NB0_170.out _ | refine zg.far ?_ NB0_186.out _) | exact HI0.out)); (case side2 => repeat (first | (with_reducible first | exact HB.out | apply zw | apply zp | apply zt | refine zz ?_ (zg.ge HI0.out) | refine zz ?_ GE170.out | refine zz ?_ GE186.out) | exact HB.out)); rintro e w19 ⟨rfl, hi, hb, hk⟩; have n0_ := za.mk (zy.blk hk (g' := gb170) (o := .cells #[.int .i8 0, .int .i8 0, .slice none 0 0] 28 (0, 0)) (by (with_reducible repeat (first | refine zc ?_ _ | refine zd ?_ | refine zb ?_ _)); refine zm ?_ NB170_186.out _; (with_reducible repeat (first | refine zc ?_ _ | refine zd ?_ | refine zb ?_ _)); refine zm ?_ NB170_186.out _; (with_reducible repeat (first | refine zc ?_ _ | refine zd ?_ | refine zb ?_ _)); refine zm ?_ NB170_186.out _; (with_reducible repeat (first | refine zc ?_ _ | refine zd ?_ | refine zb ?_ _)); exact BK170.out) NB170_0.out (by simp)); have n1_ := za.mk (Kd.R_mono (Kd.R_keep (zg.apart (show zg w0 _ g s0_0 t178 t179 from by repeat (first | (with_reducible first | exact HI0.out | apply zg.alloc | apply zg.drewN | apply zg.drew | apply zg.set_1 | apply zg.set_2 | refine zg.far ?_ NB0_170.out _ | refine zg.far ?_ NB0_186.out _) | exact HI0.out)) (uR' (Kd.R_mono (Kd.R_far (p := ⟨gb186, 2, none⟩) (Kd.R_far (p := ⟨gb186, 1, none⟩) (Kd.R_far (p := ⟨gb186, 0, none⟩) (Kd.R_types HO184.out BK186.out (by decide)) (fun _ hk => hk.2) (.int .i8 t180)) (fun _ hk => hk.2) (.int .i8 t181)) (fun _ hk => hk.2) (.slice Ao16 t182.length co16)) (fun _ h_ => h_.1))) (by decide)) hk (fun _ h => h.2)) (fun _ h => h.1)); have n2_ := za.mk (zy.blk hk (g' := gb186) (o := .cells #[.int .i8 t180, .int .i8 t181, .slice Ao16 t182.length co16] 28 (0, 0)) (by (with_reducible repeat (first | refine zc ?_ _ | refine zd ?_ | refine zb ?_ _)); refine zl (cs := #[.int .i8 t180, .int .i8 t181, .slice none 0 0]) ?_ 2 _ rfl; (with_reducible repeat (first | refine zc ?_ _ | refine zd ?_ | refine zb ?_ _)); refine zl (cs := #[.int .i8 t180, .int .i8 0, .slice none 0 0]) ?_ 1 _ rfl; (with_reducible repeat (first | refine zc ?_ _ | refine zd ?_ | refine zb ?_ _)); refine zl (cs := #[.int .i8 0, .int .i8 0, .slice none 0 0]) ?_ 0 _ rfl; (with_reducible repeat (first | refine zc ?_ _ | refine zd ?_ | refine zb ?_ _)); exact BK186.out) NB186_0.out (by simp)); have n3_ := za.mk (zy.trans (by repeat (first | (with_reducible first | exact HK.out | apply zy.set_ | apply zea | apply zha | apply zca | refine zma ?_ GW170.out _ | refine zma ?_ GW186.out _) | exact HK.out)) hk (.inl rfl)); have n4_ := za.mk hb; have n5_ := za.mk hi; clear BK170; clear HO184; clear BK186; clear HK; clear HB; clear HI0; have BK170 := n0_; have HO184 := n1_; have BK186 := n2_; have HK := n3_; have HB := n4_; have HI0 := n5_; clear n0_ n1_ n2_ n3_ n4_ n5_; try clear hb))
   go_meet
   case rel => exact ⟨_, (t187), (t188), (t189), (by first | rfl | (simp; done) | (simp [*]; done)), H', ⟨by first | omega | exact Nat.le_refl _⟩, ⟨uR HO184⟩, ⟨uK BK170⟩, ⟨uK BK186⟩, ⟨by repeat (first | (with_reducible first | exact HI0.out | apply zg.alloc | apply zg.drewN | apply zg.drew | apply zg.set_1 | apply zg.set_2 | refine zg.far ?_ NB0_170.out _ | refine zg.far ?_ NB0_186.out _) | exact HI0.out)⟩, ⟨by repeat (first | (with_reducible first | exact HK.out | apply zy.set_ | apply zea | apply zha | apply zca | refine zma ?_ GW170.out _ | refine zma ?_ GW186.out _) | exact HK.out)⟩, ⟨by repeat (first | (with_reducible first | exact HB.out | apply zw | apply zp | apply zt | refine zz ?_ (zg.ge HI0.out) | refine zz ?_ GE170.out | refine zz ?_ GE186.out) | exact HB.out)⟩⟩
  rw [if_neg c17] at H
  have c17b0 : (t185 == 0) = false := beq_eq_false_iff_ne.mpr c17
  have c17b1 : (t185 != 0) = true := bne_iff_ne.mpr c17
  (first | rw [c17b0] | (simp only [zda, zfa]; rw [c17b0]) | skip)
  have H' := za.mk H
  clear H
  go_wp2
  go_meet
  case rel => exact ⟨_, (true), (t178), (t179), (by first | rfl | (simp; done) | (simp [*]; done)), H', ⟨by first | omega | exact Nat.le_refl _⟩, ⟨by (with_reducible repeat (first | apply Kd.R_alloc | apply Kd.R_drewN | apply Kd.R_drew)); exact Kd.R_mono (Kd.R_far (p := ⟨gb186, 2, none⟩) (Kd.R_far (p := ⟨gb186, 1, none⟩) (Kd.R_far (p := ⟨gb186, 0, none⟩) (Kd.R_types HO184.out BK186.out (by decide)) (fun _ hk => hk.2) (.int .i8 t180)) (fun _ hk => hk.2) (.int .i8 t181)) (fun _ hk => hk.2) (.slice Ao16 t182.length co16)) (fun _ hk => trivial)⟩, ⟨by (with_reducible repeat (first | refine zc ?_ _ | refine zd ?_ | refine zb ?_ _)); refine zm ?_ NB170_186.out _; (with_reducible repeat (first | refine zc ?_ _ | refine zd ?_ | refine zb ?_ _)); refine zm ?_ NB170_186.out _; (with_reducible repeat (first | refine zc ?_ _ | refine zd ?_ | refine zb ?_ _)); refine zm ?_ NB170_186.out _; (with_reducible repeat (first | refine zc ?_ _ | refine zd ?_ | refine zb ?_ _)); exact BK170.out⟩, ⟨by (with_reducible repeat (first | refine zc ?_ _ | refine zd ?_ | refine zb ?_ _)); refine zl (cs := #[.int .i8 t180, .int .i8 t181, .slice none 0 0]) ?_ 2 _ rfl; (with_reducible repeat (first | refine zc ?_ _ | refine zd ?_ | refine zb ?_ _)); refine zl (cs := #[.int .i8 t180, .int .i8 0, .slice none 0 0]) ?_ 1 _ rfl; (with_reducible repeat (first | refine zc ?_ _ | refine zd ?_ | refine zb ?_ _)); refine zl (cs := #[.int .i8 0, .int .i8 0, .slice none 0 0]) ?_ 0 _ rfl; (with_reducible repeat (first | refine zc ?_ _ | refine zd ?_ | refine zb ?_ _)); exact BK186.out⟩, ⟨by repeat (first | (with_reducible first | exact HI0.out | apply zg.alloc | apply zg.drewN | apply zg.drew | apply zg.set_1 | apply zg.set_2 | refine zg.far ?_ NB0_170.out _ | refine zg.far ?_ NB0_186.out _) | exact HI0.out)⟩, ⟨by repeat (first | (with_reducible first | exact HK.out | apply zy.set_ | apply zea | apply zha | apply zca | refine zma ?_ GW170.out _ | refine zma ?_ GW186.out _) | exact HK.out)⟩, ⟨by repeat (first | (with_reducible first | exact HB.out | apply zw | apply zp | apply zt | refine zz ?_ (zg.ge HI0.out) | refine zz ?_ GE170.out | refine zz ?_ GE186.out) | exact HB.out)⟩⟩
 case rest =>
  clear HC6
  try clear c1
  try clear p2
  try clear c4
  try clear c5
  try clear p6
  try clear c9
  try clear c13
  try clear c14
  try clear c17
  try clear c17b0
  try clear c17b1
  try clear hcz15_0 hcz15_1 hcz15_2
  try clear hfz15_0 hfz15_1 hfz15_2
  obtain ⟨kq, x28_5, x1001_5, x1002_5, rfl, HA, HJ5, HO_187002, BK170, BK186, HI0, HK, HB⟩ := hcut
  cases kq with
  | zero => exact absurd HA.out (by simp [spec_l04Drawn.j0])
  | succ kj5 =>
   have H := HA.out
   clear HA
   simp only [spec_l04Drawn.j0] at H
   by_cases c20 : x28_5 = true
   ·subst c20
    have H1 : ((spec_l00Src_pick.f s0_0 x1001_5 x1002_5 7).bind fun bt190 => (spec_l04Drawn.l0 kj5 (wrap64 (1 + t171)) (wrap64 (1 + bt190.1)) s0_0 bt190.2.1 bt190.2.2 (IntKind.i8.wrap ((wrap64 (1 + t171)))) (IntKind.i8.wrap (t174)) ([] : List (S43)))) = some (r1, r2, r3, r4, r5) := by rw [if_pos rfl] at H; exact H
    clear H
    have H := H1
    clear H1
    replace H := Option.bind_eq_some_iff.mp H
    obtain ⟨⟨t190, t191, t192⟩, A210, H⟩ := H
    replace H : (spec_l04Drawn.l0 kj5 (wrap64 (1 + t171)) (wrap64 (1 + t190)) s0_0 t191 t192 (IntKind.i8.wrap ((wrap64 (1 + t171)))) (IntKind.i8.wrap (t174)) ([] : List (S43))) = some (r1, r2, r3, r4, r5) := H
    have A21 := za.mk A210
    clear A210
    have H' := za.mk H
    clear H
    have hnb22 := NB186_170.out
    have hnc22 := NB170_186.out
    have hnb23 := NB186_0.out
    have hnc23 := NB0_186.out
    obtain ⟨hcz24_0, hcz24_1, hcz24_2⟩ := xc3 BK186
    obtain ⟨hfz24_0, hfz24_1, hfz24_2⟩ := xf3 BK186
    go_wp2_with (first | ((with_reducible refine zo (f := 40) rfl ?_); refine gz (some 35) Try.func40 #[.pointer (some ⟨g, 0, none⟩), .int .i64 7] rfl rfl ?_; (with_reducible refine (spec_l00Src_pick.calls g s0_0 x1001_5 x1002_5 7 t190 t191 t192 w0 _ ?side1 ?side2 A21.out).mono ?_); (case side1 => repeat (first | (with_reducible first | exact HI0.out | apply zg.alloc | apply zg.drewN | apply zg.drew | apply zg.set_1 | apply zg.set_2 | refine zg.far ?_ NB0_170.out _ | refine zg.far ?_ NB0_186.out _) | exact HI0.out)); (case side2 => repeat (first | (with_reducible first | exact HB.out | apply zw | apply zp | apply zt | refine zz ?_ (zg.ge HI0.out) | refine zz ?_ GE170.out | refine zz ?_ GE186.out) | exact HB.out)); rintro e w25 ⟨rfl, hi, hb, hk⟩; refine ⟨_, rfl, ?_⟩; have n0_ := za.mk (Kd.R_mono (Kd.R_keep (zg.apart (show zg w0 _ g s0_0 x1001_5 x1002_5 from by repeat (first | (with_reducible first | exact HI0.out | apply zg.alloc | apply zg.drewN | apply zg.drew | apply zg.set_1 | apply zg.set_2 | refine zg.far ?_ NB0_170.out _ | refine zg.far ?_ NB0_186.out _) | exact HI0.out)) (by (with_reducible repeat (first | apply Kd.R_alloc | apply Kd.R_drewN | apply Kd.R_drew)); exact (Kd.R_mono (Kd.R_far (p := ⟨gb186, 2, none⟩) (Kd.R_far (p := ⟨gb186, 1, none⟩) (Kd.R_far (p := ⟨gb186, 0, none⟩) (Kd.R_types HO_187002.out BK186.out (by decide)) (fun _ hk => hk.2) (.int .i8 (IntKind.i8.wrap ((wrap64 (1 + t171)))))) (fun _ hk => hk.2) (.int .i8 (IntKind.i8.wrap (t174)))) (fun _ hk => hk.2) (.slice none 0 0)) (fun _ h_ => h_.1))) (by decide)) hk (fun _ h => h.2)) (fun _ h => h.1)); have n1_ := za.mk (zy.blk hk (g' := gb170) (o := .cells #[.int .i8 0, .int .i8 0, .slice none 0 0] 28 (0, 0)) (by (with_reducible repeat (first | refine zc ?_ _ | refine zd ?_ | refine zb ?_ _)); refine zm ?_ NB170_186.out _; (with_reducible repeat (first | refine zc ?_ _ | refine zd ?_ | refine zb ?_ _)); refine zm ?_ NB170_186.out _; (with_reducible repeat (first | refine zc ?_ _ | refine zd ?_ | refine zb ?_ _)); refine zm ?_ NB170_186.out _; (with_reducible repeat (first | refine zc ?_ _ | refine zd ?_ | refine zb ?_ _)); exact BK170.out) NB170_0.out (by simp)); have n2_ := za.mk (zy.blk hk (g' := gb186) (o := .cells #[.int .i8 (IntKind.i8.wrap ((wrap64 (1 + t171)))), .int .i8 (IntKind.i8.wrap (t174)), .slice none 0 0] 28 (0, 0)) (by (with_reducible repeat (first | refine zc ?_ _ | refine zd ?_ | refine zb ?_ _)); refine zl (cs := #[.int .i8 (IntKind.i8.wrap ((wrap64 (1 + t171)))), .int .i8 (IntKind.i8.wrap (t174)), .slice Ao16 t182.length co16]) ?_ 2 _ rfl; (with_reducible repeat (first | refine zc ?_ _ | refine zd ?_ | refine zb ?_ _)); refine zl (cs := #[.int .i8 (IntKind.i8.wrap ((wrap64 (1 + t171)))), .int .i8 t181, .slice Ao16 t182.length co16]) ?_ 1 _ rfl; (with_reducible repeat (first | refine zc ?_ _ | refine zd ?_ | refine zb ?_ _)); refine zl (cs := #[.int .i8 t180, .int .i8 t181, .slice Ao16 t182.length co16]) ?_ 0 _ rfl; (with_reducible repeat (first | refine zc ?_ _ | refine zd ?_ | refine zb ?_ _)); exact BK186.out) NB186_0.out (by simp)); have n3_ := za.mk (zy.trans (by repeat (first | (with_reducible first | exact HK.out | apply zy.set_ | apply zea | apply zha | apply zca | refine zma ?_ GW170.out _ | refine zma ?_ GW186.out _) | exact HK.out)) hk (.inl rfl)); have n4_ := za.mk hb; have n5_ := za.mk hi; clear HO_187002; clear BK170; clear BK186; clear HK; clear HB; clear HI0; have HO_187002 := n0_; have BK170 := n1_; have BK186 := n2_; have HK := n3_; have HB := n4_; have HI0 := n5_; clear n0_ n1_ n2_ n3_ n4_ n5_; try clear hb))
    go_loopg [7] kj5 (fun kq v7 w' => ∃ (x7_2 : Int) (x1001_2 : Int) (x1002_2 : Int) (x187002_2 : List (S43)) (u187002 : Value), v7 = .int .i64 x7_2 ∧ za (spec_l04Drawn.l0 kq (wrap64 (1 + t171)) x7_2 s0_0 x1001_2 x1002_2 (IntKind.i8.wrap ((wrap64 (1 + t171)))) (IntKind.i8.wrap (t174)) x187002_2 = some (r1, r2, r3, r4, r5)) ∧ za (kq ≤ kj5) ∧ za (Kd.R k43 43 w' w.heap.size (fun _ => True) u187002 x187002_2) ∧ za (w'.heap[gb170]? = some (.cells #[.int .i8 0, .int .i8 0, (.slice none 0 0)] 28 (0, 0))) ∧ za (w'.heap[gb186]? = some (.cells #[.int .i8 (IntKind.i8.wrap ((wrap64 (1 + t171)))), .int .i8 (IntKind.i8.wrap (t174)), u187002] 28 (0, 0))) ∧ za (zg w0 w' g s0_0 x1001_2 x1002_2) ∧ za (zy w w' g none) ∧ za (Below w0.heap.size w0 w'))
    case atStart => exact ⟨(wrap64 (1 + t190)), (t191), (t192), (([] : List (S43))), (.slice none 0 0), (by first | rfl | (simp; done) | (simp [*]; done)), H', ⟨Nat.le_refl _⟩, ⟨by first | exact Kd.R_nil _ _ _ _ _ | exact Kd.N_nil _ _ _ _ _ | exact Kd.V_nil _ _ _ _ _ | exact Kd.Q_nil _ _ _ _ _ | exact Kd.S_nil _ _ _ _ _⟩, ⟨uK BK170⟩, ⟨uK BK186⟩, ⟨by repeat (first | (with_reducible first | exact HI0.out | apply zg.alloc | apply zg.drewN | apply zg.drew | apply zg.set_1 | apply zg.set_2 | refine zg.far ?_ NB0_170.out _ | refine zg.far ?_ NB0_186.out _) | exact HI0.out)⟩, ⟨by repeat (first | (with_reducible first | exact HK.out | apply zy.set_ | apply zea | apply zha | apply zca | refine zma ?_ GW170.out _ | refine zma ?_ GW186.out _) | exact HK.out)⟩, ⟨by repeat (first | (with_reducible first | exact HB.out | apply zw | apply zp | apply zt | refine zz ?_ (zg.ge HI0.out) | refine zz ?_ GE170.out | refine zz ?_ GE186.out) | exact HB.out)⟩⟩
    case round =>
     clear H'
     try clear c1
     try clear c2
     try clear p2
     try clear c4
     try clear c5
     try clear p6
     try clear c9
     try clear c13
     try clear c14
     try clear c17
     try clear c17b0
     try clear c17b1
     try clear c20
     try clear c22
     try clear c23
     try clear hcz15_0 hcz15_1 hcz15_2
     try clear hcz24_0 hcz24_1 hcz24_2
     try clear hfz15_0 hfz15_1 hfz15_2
     try clear hfz24_0 hfz24_1 hfz24_2
     try clear p2
     try clear p6
     obtain ⟨x7_2, x1001_2, x1002_2, x187002_2, u187002, rfl, HA, HK2, HO_187002, BK170, BK186, HI0, HK, HB⟩ := hrel
     cases gk with
     | zero => exact absurd HA.out (by simp [spec_l04Drawn.l0])
     | succ k2 =>
      have H := HA.out
      clear HA
      simp only [spec_l04Drawn.l0] at H
      by_cases c26 : x7_2 > 0
      ·rw [if_pos c26] at H
       have c26b0 : decide (0 < x7_2) = true := decide_eq_true c26
       clear c26
       replace H := Option.bind_eq_some_iff.mp H
       obtain ⟨⟨t193, t194, t195, t196, t197, t198⟩, A270, H⟩ := H
       replace H : (if x187002_2.length < 35184372088832 then (spec_l04Drawn.l0 k2 (wrap64 (1 + t171)) (wrap64 (x7_2 - 1)) s0_0 t197 t198 (IntKind.i8.wrap ((wrap64 (1 + t171)))) (IntKind.i8.wrap (t174)) (x187002_2 ++ [(⟨t193, t194, t195, t196⟩ : S43)])) else (none)) = some (r1, r2, r3, r4, r5) := H
       have A27 := za.mk A270
       clear A270
       by_cases c28 : x187002_2.length < 35184372088832
       ·rw [if_pos c28] at H
        have LMc28 := za.mk c28
        clear c28
        obtain ⟨y199, hy199⟩ : ∃ y_ : List (S43), y_ = (x187002_2 ++ [(⟨t193, t194, t195, t196⟩ : S43)]) := ⟨_, rfl⟩
        replace H : (spec_l04Drawn.l0 k2 (wrap64 (1 + t171)) (wrap64 (x7_2 - 1)) s0_0 t197 t198 (IntKind.i8.wrap ((wrap64 (1 + t171)))) (IntKind.i8.wrap (t174)) y199) = some (r1, r2, r3, r4, r5) := by first | (rw [hy199]; with_reducible exact H) | (have H2_ := (Option.bind_some _ _).symm.trans H; rw [hy199]; with_reducible exact H2_) | (have H2_ := (Option.bind_some _ _).symm.trans H; with_reducible exact H2_) | with_reducible exact H | (rw [hy199]; exact H) | exact H
        have Ny199 := za.mk hy199
        clear hy199
        have H' := za.mk H
        clear H
        try go_wp2
        have n0_ := za.mk (Kd.R_drew HO_187002.out)
        have n1_ := za.mk (zd BK170.out)
        have n2_ := za.mk (zd BK186.out)
        have n3_ := za.mk (zg.drew HI0.out)
        have n4_ := za.mk (zha HK.out)
        have n5_ := za.mk (zt HB.out)
        clear HO_187002
        clear BK170
        clear BK186
        clear HI0
        clear HK
        clear HB
        have HO_187002 := n0_
        have BK170 := n1_
        have BK186 := n2_
        have HI0 := n3_
        have HK := n4_
        have HB := n5_
        clear n0_ n1_ n2_ n3_ n4_ n5_
        refine zbc (n := 9) (S := fun w' => w'.cell? ⟨gb186, 0, none⟩ = some (.int .i8 (IntKind.i8.wrap ((wrap64 (1 + t171))))) ∧ w'.cell? ⟨gb186, 1, none⟩ = some (.int .i8 (IntKind.i8.wrap (t174))) ∧ w'.cell? ⟨gb186, 2, none⟩ = some (u187002)) (ds := [8]) #[false, false, false, false, false, false, false, false, false] (by kernel_rfl) rfl rfl ⟨(zh BK186.out 0).trans rfl, (zh BK186.out 1).trans rfl, (zh BK186.out 2).trans rfl⟩ (fun hHeld => ?_); refine zib spec_l04Drawn.tab9 spec_l04Drawn.bits9 (fun HT_ HW_ => ?_)
        generalize wr.drew = w29 at HO_187002 BK170 BK186 HI0 HK HB hHeld ⊢
        refine zva (i := 0) (N := some 41) (v := ?_) (a' := ?_) #[true, false, false, false, false, false, false, false, false] rfl rfl (zia HT_.out (by kernel_rfl)) (fun _ _ _ h => h) (Or.inl ⟨by rfl, ?_⟩) ?_ ?_
        rotate_left
        ·intro w'
         go_simp
         with_reducible rfl
        rotate_left
        ·simp only [Act.put, List.setIfInBounds_toArray, List.set_cons_zero, List.set_cons_succ, zda, zfa]
         rfl
        refine zva (i := 2) (N := some 43) (v := ?_) (a' := ?_) #[true, false, true, false, false, false, false, false, false] rfl rfl (zia HT_.out (by kernel_rfl)) (fun _ _ _ h => h) (Or.inl ⟨by rfl, ?_⟩) ?_ ?_
        rotate_left
        ·intro w'
         go_simp
         with_reducible rfl
        rotate_left
        ·simp only [Act.put, List.setIfInBounds_toArray, List.set_cons_zero, List.set_cons_succ, zda, zfa]
         rfl
        refine zva (i := 3) (N := some 44) (v := ?_) (a' := ?_) #[true, false, true, true, false, false, false, false, false] rfl rfl (zia HT_.out (by kernel_rfl)) (fun _ _ _ h => h) (Or.inl ⟨by rfl, ?_⟩) ?_ ?_
        rotate_left
        ·intro w'
         go_simp
         with_reducible rfl
        rotate_left
        ·simp only [Act.put, List.setIfInBounds_toArray, List.set_cons_zero, List.set_cons_succ, zda, zfa]
         rfl
        refine take_ (i := 1) (N := some 42) (v := ?_) (a' := ?_) #[true, true, true, true, false, false, false, false, false] rfl rfl (zsa HT_.out HW_.out (by kernel_rfl)) (fun _ _ _ h => h) (Or.inl ⟨by rfl, ?_⟩) hHeld ?_ ?_
        rotate_left
        ·rintro w' ⟨s0, s1, s2⟩
         go_simp
         with_reducible rfl
        rotate_left
        ·simp only [Act.put, List.setIfInBounds_toArray, List.set_cons_zero, List.set_cons_succ, zda, zfa]
         rfl
        refine one_ (i := 4) (N := some 45) #[true, true, true, true, true, false, false, false, false] rfl rfl (zgb HT_.out (by kernel_rfl)) (by decide) (fun K hK => ?_)
        refine zxb Try.func97 (by kernel_rfl) rfl #[.pointer (some ⟨g, 0, none⟩), .int .i64 (wrap64 (1 + t171))] (by rfl) rfl rfl (by (try simp only [List.map_toArray, List.map_cons, List.map_nil]); first | done | rfl | (simp only [List.length_drop, List.length_take]; rfl)) ?_
        with_reducible refine (spec_l04Any.calls k2 g s0_0 x1001_2 x1002_2 (wrap64 (1 + t171)) t193 t194 t195 t196 t197 t198 w0 _ ?side1 ?side2 A27.out).mono ?_
        (case side1 => repeat (first | (with_reducible first | exact HI0.out | apply zg.alloc | apply zg.drewN | apply zg.drew | apply zg.set_1 | apply zg.set_2 | refine zg.far ?_ NB0_170.out _ | refine zg.far ?_ NB0_186.out _) | exact HI0.out))
        (case side2 => repeat (first | (with_reducible first | exact HB.out | apply zw | apply zp | apply zt | refine zz ?_ (zg.ge HI0.out) | refine zz ?_ GE170.out | refine zz ?_ GE186.out) | exact HB.out))
        rintro e w30 ⟨rfl, hi, hb, hk⟩
        refine ⟨_, rfl, ?_⟩
        have n0_ := za.mk (Kd.R_mono (Kd.R_keep (zg.apart (show zg w0 _ g s0_0 x1001_2 x1002_2 from by repeat (first | (with_reducible first | exact HI0.out | apply zg.alloc | apply zg.drewN | apply zg.drew | apply zg.set_1 | apply zg.set_2 | refine zg.far ?_ NB0_170.out _ | refine zg.far ?_ NB0_186.out _) | exact HI0.out)) (uR HO_187002) (by decide)) hk (fun _ h => h.2)) (fun _ h => h.1))
        have n1_ := za.mk (zy.blk hk (g' := gb170) (o := .cells #[.int .i8 0, .int .i8 0, .slice none 0 0] 28 (0, 0)) (uK BK170) NB170_0.out (by simp))
        have n2_ := za.mk (zy.blk hk (g' := gb186) (o := .cells #[.int .i8 (IntKind.i8.wrap ((wrap64 (1 + t171)))), .int .i8 (IntKind.i8.wrap (t174)), u187002] 28 (0, 0)) (uK BK186) NB186_0.out (by simp))
        have n3_ := za.mk (zy.trans (by repeat (first | (with_reducible first | exact HK.out | apply zy.set_ | apply zea | apply zha | apply zca | refine zma ?_ GW170.out _ | refine zma ?_ GW186.out _) | exact HK.out)) hk (.inl rfl))
        have n4_ := za.mk hb
        have n5_ := za.mk hi
        clear HO_187002
        clear BK170
        clear BK186
        clear HK
        clear HB
        clear HI0
        have HO_187002 := n0_
        have BK170 := n1_
        have BK186 := n2_
        have HK := n3_
        have HB := n4_
        have HI0 := n5_
        clear n0_ n1_ n2_ n3_ n4_ n5_
        (try clear hb)
        (try clear hb2)
        (try clear hk)
        (try clear hi)
        refine hK.out _ _ ⟨(zh BK186.out 0).trans rfl, (zh BK186.out 1).trans rfl, (zh BK186.out 2).trans rfl⟩ (fun hHeld => ?_)
        clear hK K
        refine zub (a' := ?_) ?_ ?_
        rotate_left
        ·show Act.put _ (some 45) _ = _
         simp only [Act.put, List.setIfInBounds_toArray, List.set_cons_zero, List.set_cons_succ, zda, zfa]
         rfl
        refine one_ (i := 5) (N := some 46) #[true, true, true, true, true, true, false, false, false] rfl rfl (zgb HT_.out (by kernel_rfl)) (by decide) (fun K hK => ?_)
        refine value_ (w1 := ?_) (v := ?_) (by rfl) rfl ?_ ?_
        rotate_left 2
        ·go_simp
         constructor
         ·rfl
         rfl
        refine hK.out _ _ ⟨(zh (zb BK186.out _) 0).trans rfl, (zh (zb BK186.out _) 1).trans rfl, (zh (zb BK186.out _) 2).trans rfl⟩ (fun hHeld => ?_)
        clear hK K
        refine zub (a' := ?_) ?_ ?_
        rotate_left
        ·show Act.put _ (some 46) _ = _
         simp only [Act.put, List.setIfInBounds_toArray, List.set_cons_zero, List.set_cons_succ, zda, zfa]
         rfl
        refine one_ (i := 6) (N := some 47) #[true, true, true, true, true, true, true, false, false] rfl rfl (zgb HT_.out (by kernel_rfl)) (by decide) (fun K hK => ?_)
        refine Kd.R_append_step k43 w.heap.size (by rfl) (.tmp 42) (.tmp 46) 26 43 (.agg #[(.int .i8 0), (.int .i8 0), (.int .i8 0), (.int .i8 0)]) 4 rfl Try.underlying26 info43 rfl (by decide) (by omega) u187002 x187002_2 (⟨t193, t194, t195, t196⟩ : S43) [.int .i8 t193, .int .i8 t194, .int .i8 t195, .int .i8 t196] (fun _ => True) (fun _ => False) rfl rfl ?aP (fun _ hk => hk.elim) ?aF ?aO (Below.refl _ _) ?aS ?aL ?_
        (case aP => exact k43_mkM _ _ _ (⟨t193, t194, t195, t196⟩ : S43))
        (case aF => exact (fun _ _ => trivial))
        (case aO => exact (uR HO_187002))
        (case aS => exact (zrb (w := w) (g := g) (row := none) (by repeat (first | (with_reducible first | exact HK.out | apply zy.set_ | apply zea | apply zha | apply zca | refine zma ?_ GW170.out _ | refine zma ?_ GW186.out _) | exact HK.out))))
        (case aL => have := LMc28.out; omega)
        intro v200 w31 ho hb hg hat
        rw [← Ny199.out] at ho
        have n0_ := za.mk (zq (g := gb170) (o := .cells #[.int .i8 0, .int .i8 0, .slice none 0 0] 28 (0, 0)) (uK BK170) hg (Kd.R_ne HO_187002.out BK170.out (by decide)))
        have n1_ := za.mk (zq (g := gb186) (o := .cells #[.int .i8 (IntKind.i8.wrap ((wrap64 (1 + t171)))), .int .i8 (IntKind.i8.wrap (t174)), u187002] 28 (0, 0)) (uK BK186) hg (Kd.R_ne HO_187002.out BK186.out (by decide)))
        have n2_ := za.mk (zg.grown (by repeat (first | (with_reducible first | exact HI0.out | apply zg.alloc | apply zg.drewN | apply zg.drew | apply zg.set_1 | apply zg.set_2 | refine zg.far ?_ NB0_170.out _ | refine zg.far ?_ NB0_186.out _) | exact HI0.out)) hg (zg.own_ne HI0.out HO_187002.out (by decide)))
        have n3_ := za.mk (zbf (by repeat (first | (with_reducible first | exact HB.out | apply zw | apply zp | apply zt | refine zz ?_ (zg.ge HI0.out) | refine zz ?_ GE170.out | refine zz ?_ GE186.out) | exact HB.out)) HL.out hb)
        have n4_ := za.mk (zy.trans (by repeat (first | (with_reducible first | exact HK.out | apply zy.set_ | apply zea | apply zha | apply zca | refine zma ?_ GW170.out _ | refine zma ?_ GW186.out _) | exact HK.out)) (zy.of_grown hg g) (Kd.R_base2 HO_187002.out))
        have n5_ := za.mk ho
        clear BK170
        clear BK186
        clear HI0
        clear HB
        clear HK
        clear HO_187002
        have BK170 := n0_
        have BK186 := n1_
        have HI0 := n2_
        have HB := n3_
        have HK := n4_
        have HO201 := n5_
        clear n0_ n1_ n2_ n3_ n4_ n5_
        clear ho hb hg hat
        obtain ⟨Ao32, co32, eo32⟩ := Kd.R_slice HO201.out
        (first | subst eo32 | (injection eo32 with f1_ f2_ f3_; have f4_ := f1_.symm; have f5_ := f3_.symm; clear f1_ f2_ f3_; subst f4_; subst f5_))
        refine hK.out _ _ ⟨(zh BK186.out 0).trans rfl, (zh BK186.out 1).trans rfl, (zh BK186.out 2).trans rfl⟩ (fun hHeld => ?_)
        clear hK K
        refine zub (a' := ?_) ?_ ?_
        rotate_left
        ·show Act.put _ (some 47) _ = _
         simp only [Act.put, List.setIfInBounds_toArray, List.set_cons_zero, List.set_cons_succ, zda, zfa]
         rfl
        refine zva (i := 7) (N := some 48) (v := ?_) (a' := ?_) #[true, true, true, true, true, true, true, true, false] rfl rfl (zia HT_.out (by kernel_rfl)) (fun _ _ _ h => h) (Or.inl ⟨by rfl, ?_⟩) ?_ ?_
        rotate_left
        ·intro w'
         go_simp
         with_reducible rfl
        rotate_left
        ·simp only [Act.put, List.setIfInBounds_toArray, List.set_cons_zero, List.set_cons_succ, zda, zfa]
         rfl
        refine last_ (i := 8) (N := none) #[true, true, true, true, true, true, true, true, true] rfl rfl (zgb HT_.out (by kernel_rfl)) (by decide) (fun K hK => ?_)
        have hs33 : w31.cell? ⟨gb186, 2, none⟩ = some (u187002) := (zh BK186.out 2).trans rfl
        have hfs33 := zaa BK186.out 2
        have hns33_0 := NB170_186.out
        have hms33_0 := NB186_170.out
        refine skip_ (w1 := ?_) (by rfl) rfl ?_ ?_
        rotate_left
        ·go_simp
         rfl
        refine hK.out _ _ ?_
        clear hK K
        refine zjd (ztb HT_.out (by kernel_rfl)) ?_
        try go_wp2
        go_roundg k2
        case measure => have := HJ5.out; have := HK2.out; omega
        case rel => exact ⟨(wrap64 (x7_2 - 1)), (t197), (t198), (y199), (.slice Ao32 y199.length co32), (by first | rfl | (simp; done) | (simp [*]; done)), H', ⟨by have := HJ5.out; have := HK2.out; omega⟩, ⟨by (with_reducible repeat (first | apply Kd.R_alloc | apply Kd.R_drewN | apply Kd.R_drew)); exact Kd.R_mono (Kd.R_far (p := ⟨gb186, 2, none⟩) (Kd.R_types HO201.out BK186.out (by decide)) (fun _ hk => hk.2) (.slice Ao32 y199.length co32)) (fun _ hk => trivial)⟩, ⟨by (with_reducible repeat (first | refine zc ?_ _ | refine zd ?_ | refine zb ?_ _)); refine zm ?_ NB170_186.out _; (with_reducible repeat (first | refine zc ?_ _ | refine zd ?_ | refine zb ?_ _)); exact BK170.out⟩, ⟨by (with_reducible repeat (first | refine zc ?_ _ | refine zd ?_ | refine zb ?_ _)); refine zl (cs := #[.int .i8 (IntKind.i8.wrap ((wrap64 (1 + t171)))), .int .i8 (IntKind.i8.wrap (t174)), u187002]) ?_ 2 _ rfl; (with_reducible repeat (first | refine zc ?_ _ | refine zd ?_ | refine zb ?_ _)); exact BK186.out⟩, ⟨by repeat (first | (with_reducible first | exact HI0.out | apply zg.alloc | apply zg.drewN | apply zg.drew | apply zg.set_1 | apply zg.set_2 | refine zg.far ?_ NB0_170.out _ | refine zg.far ?_ NB0_186.out _) | exact HI0.out)⟩, ⟨by repeat (first | (with_reducible first | exact HK.out | apply zy.set_ | apply zea | apply zha | apply zca | refine zma ?_ GW170.out _ | refine zma ?_ GW186.out _) | exact HK.out)⟩, ⟨by repeat (first | (with_reducible first | exact HB.out | apply zw | apply zp | apply zt | refine zz ?_ (zg.ge HI0.out) | refine zz ?_ GE170.out | refine zz ?_ GE186.out) | exact HB.out)⟩⟩
       rw [if_neg c28] at H
       exact absurd H (by simp)
      rw [if_neg c26] at H
      have c26b0 : decide (0 < x7_2) = false := decide_eq_false c26
      clear c26
      simp only [Option.some.injEq, Prod.mk.injEq] at H
      obtain ⟨rfl, rfl, rfl, rfl, rfl⟩ := H
      have hnb34 := NB186_170.out
      have hnc34 := NB170_186.out
      have hnb35 := NB186_0.out
      have hnc35 := NB0_186.out
      obtain ⟨hcz36_0, hcz36_1, hcz36_2⟩ := xc3 BK186
      obtain ⟨hfz36_0, hfz36_1, hfz36_2⟩ := xf3 BK186
      have hnb37 := NB170_0.out
      have hnc37 := NB0_170.out
      obtain ⟨hcz38_0, hcz38_1, hcz38_2⟩ := xc3 BK170
      obtain ⟨hfz38_0, hfz38_1, hfz38_2⟩ := xf3 BK170
      obtain ⟨Ao39, co39, eo39⟩ := Kd.R_slice HO_187002.out
      subst eo39
      go_wp2
      refine bodyPost_ret (results_cell_row rfl _ _ gb170 28 #[.int .i8 (IntKind.i8.wrap ((wrap64 (1 + t171)))), .int .i8 (IntKind.i8.wrap (t174)), .slice Ao39 x187002_2.length co39] (0, 0) _ rfl (by (with_reducible repeat (first | refine zc ?_ _ | refine zd ?_ | refine zb ?_ _)); refine zl (cs := #[.int .i8 (IntKind.i8.wrap ((wrap64 (1 + t171)))), .int .i8 (IntKind.i8.wrap (t174)), .slice none 0 0]) ?_ 2 _ rfl; (with_reducible repeat (first | refine zc ?_ _ | refine zd ?_ | refine zb ?_ _)); refine zl (cs := #[.int .i8 (IntKind.i8.wrap ((wrap64 (1 + t171)))), .int .i8 0, .slice none 0 0]) ?_ 1 _ rfl; (with_reducible repeat (first | refine zc ?_ _ | refine zd ?_ | refine zb ?_ _)); refine zl (cs := #[.int .i8 0, .int .i8 0, .slice none 0 0]) ?_ 0 _ rfl; (with_reducible repeat (first | refine zc ?_ _ | refine zd ?_ | refine zb ?_ _)); exact BK170.out) Try.underlying28 rfl (by kernel_rfl)) rfl ?_
      exact ⟨_, by first | rfl | (simp [zk, zj] <;> rfl) | (simp [*, zk, zj] <;> rfl), by (with_reducible repeat (first | apply Kd.R_alloc | apply Kd.R_drewN | apply Kd.R_drew)); exact Kd.R_mono (Kd.R_far (p := ⟨gb170, 2, none⟩) (Kd.R_far (p := ⟨gb170, 1, none⟩) (Kd.R_far (p := ⟨gb170, 0, none⟩) (Kd.R_types HO_187002.out BK170.out (by decide)) (fun _ hk => hk.2) (.int .i8 (IntKind.i8.wrap ((wrap64 (1 + t171)))))) (fun _ hk => hk.2) (.int .i8 (IntKind.i8.wrap (t174)))) (fun _ hk => hk.2) (.slice Ao39 x187002_2.length co39)) (fun _ hk => trivial), by repeat (first | (with_reducible first | exact HI0.out | apply zg.alloc | apply zg.drewN | apply zg.drew | apply zg.set_1 | apply zg.set_2 | refine zg.far ?_ NB0_170.out _ | refine zg.far ?_ NB0_186.out _) | exact HI0.out), by repeat (first | (with_reducible first | exact HB.out | apply zw | apply zp | apply zt | refine zz ?_ (zg.ge HI0.out) | refine zz ?_ GE170.out | refine zz ?_ GE186.out) | exact HB.out), by repeat (first | (with_reducible first | exact HK.out | apply zy.set_ | apply zea | apply zha | apply zca | refine zma ?_ GW170.out _ | refine zma ?_ GW186.out _) | exact HK.out)⟩
   replace c20 := Bool.eq_false_iff.mpr c20
   subst c20
   have H1 : (some (t180, t181, t182, x1001_5, x1002_5)) = some (r1, r2, r3, r4, r5) := by rw [if_neg (show ¬ (false = true) by decide)] at H; exact H
   clear H
   have H := H1
   clear H1
   simp only [Option.some.injEq, Prod.mk.injEq] at H
   obtain ⟨rfl, rfl, rfl, rfl, rfl⟩ := H
   have hnb40 := NB186_170.out
   have hnc40 := NB170_186.out
   have hnb41 := NB186_0.out
   have hnc41 := NB0_186.out
   obtain ⟨hcz42_0, hcz42_1, hcz42_2⟩ := xc3 BK186
   obtain ⟨hfz42_0, hfz42_1, hfz42_2⟩ := xf3 BK186
   have hnb43 := NB170_0.out
   have hnc43 := NB0_170.out
   obtain ⟨hcz44_0, hcz44_1, hcz44_2⟩ := xc3 BK170
   obtain ⟨hfz44_0, hfz44_1, hfz44_2⟩ := xf3 BK170
   go_wp2
   refine bodyPost_ret (results_cell_row rfl _ _ gb170 28 #[.int .i8 t180, .int .i8 t181, .slice Ao16 t182.length co16] (0, 0) _ rfl (by (with_reducible repeat (first | refine zc ?_ _ | refine zd ?_ | refine zb ?_ _)); refine zl (cs := #[.int .i8 t180, .int .i8 t181, .slice none 0 0]) ?_ 2 _ rfl; (with_reducible repeat (first | refine zc ?_ _ | refine zd ?_ | refine zb ?_ _)); refine zl (cs := #[.int .i8 t180, .int .i8 0, .slice none 0 0]) ?_ 1 _ rfl; (with_reducible repeat (first | refine zc ?_ _ | refine zd ?_ | refine zb ?_ _)); refine zl (cs := #[.int .i8 0, .int .i8 0, .slice none 0 0]) ?_ 0 _ rfl; (with_reducible repeat (first | refine zc ?_ _ | refine zd ?_ | refine zb ?_ _)); exact BK170.out) Try.underlying28 rfl (by kernel_rfl)) rfl ?_
   exact ⟨_, by first | rfl | (simp [zk, zj] <;> rfl) | (simp [*, zk, zj] <;> rfl), by (with_reducible repeat (first | apply Kd.R_alloc | apply Kd.R_drewN | apply Kd.R_drew)); exact Kd.R_mono (Kd.R_far (p := ⟨gb170, 2, none⟩) (Kd.R_far (p := ⟨gb170, 1, none⟩) (Kd.R_far (p := ⟨gb170, 0, none⟩) (Kd.R_types HO_187002.out BK170.out (by decide)) (fun _ hk => hk.2) (.int .i8 t180)) (fun _ hk => hk.2) (.int .i8 t181)) (fun _ hk => hk.2) (.slice Ao16 t182.length co16)) (fun _ hk => trivial), by repeat (first | (with_reducible first | exact HI0.out | apply zg.alloc | apply zg.drewN | apply zg.drew | apply zg.set_1 | apply zg.set_2 | refine zg.far ?_ NB0_170.out _ | refine zg.far ?_ NB0_186.out _) | exact HI0.out), by repeat (first | (with_reducible first | exact HB.out | apply zw | apply zp | apply zt | refine zz ?_ (zg.ge HI0.out) | refine zz ?_ GE170.out | refine zz ?_ GE186.out) | exact HB.out), by repeat (first | (with_reducible first | exact HK.out | apply zy.set_ | apply zea | apply zha | apply zca | refine zma ?_ GW170.out _ | refine zma ?_ GW186.out _) | exact HK.out)⟩

end Go.Proofs.Ytmfbcklaomigaaa.N
