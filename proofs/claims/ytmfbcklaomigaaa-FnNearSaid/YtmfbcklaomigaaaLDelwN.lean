/- slices.DeleteFunc at []Case with DecodeNear's literal. -/
import Derived.Test.YtmfbcklaomigaaaLDelN
import Derived.Test.YtmfbcklaomigaaaNx24
import Derived.Test.YtmfbcklaomigaaaNx23
namespace Go.Proofs.Ytmfbcklaomigaaa.N
open Go.RowKit Go.Proofs.YtmfbcklaomigaaaW.PrintWords Go.Proofs.YtmfbcklaomigaaaW.PrintLast Go.Proofs.YtmfbcklaomigaaaW.PrintMore
attribute [local go_sem] zqa zpa zwa zxa zla zka zra zta
set_option linter.unusedVariables false
set_option linter.unusedSimpArgs false
theorem wrapB {j : Nat} (h : j ≤ 9223372036854775807) : ((j : Int) + 1 ≤ 9223372036854775807 ∧ wrap64 ((j : Int) + 1) = ((j + 1 : Nat) : Int)) ∨ wrap64 ((j : Int) + 1) < 0 := by
  unfold wrap64; omega
theorem rd38_get {l : List S38} {j : Nat} (h : j < l.length) : (⟨(zf l (j : Int)).f0, (zf l (j : Int)).f1⟩ : S38) = l[j] := by
  unfold zf
  rw [Int.toNat_natCast, List.getD_eq_getElem?_getD, List.getElem?_eq_getElem h]; rfl
theorem zre (l : List S38) (a b : Int) (L : List S43) (p q s t u : Int) (r ys : List S38) (k : Nat) (x : Int) (hx : x < 0) : impl_Case_84_85.l0 k l ys x a b L p q s t u ≠ some r := by
  cases k with
  | zero => simp [impl_Case_84_85.l0]
  | succ k =>
    rw [impl_Case_84_85.l0, if_pos (by omega), if_neg (by omega)]
    simp
theorem idx_del (l : List S38) (a b : Int) (L : List S43) (p q s t u : Int) (x : Int) (r : List S38) : ∀ (k : Nat) (j : Nat) (ys : List S38), j ≤ 9223372036854775807 →
    impl_Case_79_85.l0 k l (l.length : Int) j a b L p q s t u = some x → impl_Case_84_85.l0 k l ys j a b L p q s t u = some r →
    (x = -1 ∧ r = ys ++ l.drop j) ∨ ∃ i k' : Nat, x = i ∧ j ≤ i ∧ i < l.length ∧ k' ≤ k ∧ i + 1 ≤ 9223372036854775807 ∧ impl_Case_84_85.l0 k' l (ys ++ (l.drop j).take (i - j)) ((i + 1 : Nat) : Int) a b L p q s t u = some r
  | 0, j, ys, hj, h1, h2 => by simp [impl_Case_79_85.l0] at h1
  | k + 1, j, ys, hj, h1, h2 => by
    rw [impl_Case_79_85.l0] at h1
    rw [impl_Case_84_85.l0] at h2
    by_cases c : (j : Int) < (l.length : Int)
    · rw [if_pos c, if_pos (by omega), if_pos c] at h1
      rw [if_pos c, if_pos (by omega)] at h2
      obtain ⟨v, hv, h1⟩ := Option.bind_eq_some_iff.mp h1
      obtain ⟨v', hv', h2⟩ := Option.bind_eq_some_iff.mp h2
      rw [hv] at hv'
      obtain rfl := Option.some.inj hv'
      have cl : j < l.length := by omega
      cases v with
      | true =>
        rw [if_pos rfl] at h1 h2
        obtain rfl := Option.some.inj h1
        rcases wrapB hj with ⟨hw, e⟩ | e
        · refine .inr ⟨j, k, rfl, Nat.le_refl _, cl, Nat.le_succ _, by omega, ?_⟩
          rw [e] at h2
          simpa using h2
        · exact absurd h2 (zre _ _ _ _ _ _ _ _ _ _ _ _ _ e)
      | false =>
        rw [if_neg (by decide)] at h1 h2
        by_cases cy : ys.length < 70368744177664
        · rw [if_pos cy] at h2
          rcases wrapB hj with ⟨hw, e⟩ | e
          · rw [e] at h1 h2
            rw [rd38_get cl] at h2
            rcases idx_del l a b L p q s t u x r k (j + 1) _ (by omega) h1 h2 with ⟨e1, e2⟩ | ⟨i, k', e1, e2, e3, e4, e6, e5⟩
            · refine .inl ⟨e1, ?_⟩
              rw [e2, List.append_assoc, List.drop_eq_getElem_cons cl]; rfl
            · refine .inr ⟨i, k', e1, by omega, e3, by omega, e6, ?_⟩
              rw [List.append_assoc] at e5
              rw [List.drop_eq_getElem_cons cl, show i - j = (i - (j + 1)) + 1 by omega, List.take_succ_cons]
              exact e5
          · exact absurd h2 (zre _ _ _ _ _ _ _ _ _ _ _ _ _ e)
        · rw [if_neg cy] at h2; exact absurd h2 (by simp)
    · rw [if_neg c] at h1 h2
      refine .inl ⟨(Option.some.inj h1).symm, ?_⟩
      rw [List.drop_eq_nil_of_le (by omega), List.append_nil]
      exact (Option.some.inj h2).symm
set_option maxHeartbeats 8000000 in
set_option maxRecDepth 100000 in
theorem zdc (k : Nat) (v0 : Value) (l0 : List S38) (g200 g201 g202 : Nat) (a1_0 a1_1 : Int) (A1_2 : Option Addr) (c1_2 : Nat) (l1_2 : List S43) (a1_3 a1_4 a1_5 a1_6 a1_7 : Int) (r : List S38) (w0 w : World)
    (hB : Below w0.heap.size w0 w) (ho : Kd.R k38 38 w w0.heap.size (fun _ => True) v0 l0) (hb30 : w0.heap[g200]? = some (.cells #[.int .i8 a1_0, .int .i8 a1_1, .slice A1_2 l1_2.length c1_2] 28 (0, 0)))
    (hb31 : w0.heap[g201]? = some (.cells #[.int .i8 a1_3, .int .i8 a1_4, .int .i8 a1_5, .int .i8 a1_6] 43 (0, 0))) (hb32 : w0.heap[g202]? = some (.cells #[.int .i64 a1_7] 2 (0, 0))) (hr1_2 : Kd.C k43 w0 A1_2 l1_2.length l1_2) (hc1_2 : l1_2.length ≤ c1_2)
    (h : impl_Case_84_85.f k l0 a1_0 a1_1 l1_2 a1_3 a1_4 a1_5 a1_6 a1_7 = some r) :
    Calls Try.prog 84 #[v0, .func (.func 85) #[] #[.pointer (some ⟨g200, 0, none⟩), .pointer (some ⟨g201, 0, none⟩), .pointer (some ⟨g202, 0, none⟩)]] w fun e w' => ∃ v' : Value, e = .returned v' ∧ Kd.R k38 38 w' w0.heap.size (fun _ => True) v' r ∧ Below w0.heap.size w0 w' := by
 have hu38 := Try.underlying38
 obtain ⟨t, ht, hl⟩ := Option.bind_eq_some_iff.mp h
 have hs := idx_del l0 a1_0 a1_1 l1_2 a1_3 a1_4 a1_5 a1_6 a1_7 t r k 0 [] (by omega) ht hl
 obtain ⟨A0, c0, rfl⟩ := Kd.R_slice ho
 have B30 := za.mk hb30
 have B31 := za.mk hb31
 have B32 := za.mk hb32
 have HR1_2 := za.mk hr1_2
 have HC1_2 := za.mk hc1_2
 have A3 := za.mk ht
 have HB := za.mk hB
 have HO := za.mk ho
 have HW0 := za.mk hB.size
 clear hb30 hb31 hb32 hr1_2 hc1_2 h ht hl hB ho
 rcases hs with ⟨rfl, hr⟩ | ⟨i0, k', rfl, _, hi0, hk', hi1, hl⟩
 · rw [List.nil_append, List.drop_zero] at hr
   subst r
   go_enter Try.func84, Try.ntmps84
   go_wp2_with (first | (go_at_call 79; (with_reducible refine (impl_Case_79_85.calls k _ _ l0 g200 g201 g202 a1_0 a1_1 A1_2 c1_2 l1_2 a1_3 a1_4 a1_5 a1_6 a1_7 _ _ ?side1 ?side2 ?side3 ?side4 ?side5 ?side6 ?side7 A3.out).mono ?_); (case side1 => exact uQ HO); (case side2 => exact (Kd.R_reads' HO.out).2.1); (case side3 => exact zr B30.out sB); (case side4 => exact zr B31.out sB); (case side5 => exact zr B32.out sB); (case side6 => exact Kd.C_below HR1_2.out sB); (case side7 => exact HC1_2.out); rintro e w4 ⟨rfl, hb⟩; replace HO := dR HO hb; replace HB := za.mk (ze sB hb); clear hb))
   go_ret
   exact ⟨_, rfl, by (with_reducible repeat (first | apply Kd.R_alloc | apply Kd.R_drewN | apply Kd.R_drew)); exact HO.out, sB⟩
 · obtain ⟨g, cap, eg, hge, hgl, _⟩ := Kd.R_form HO.out (by omega)
   injection eg with e1 _ e2
   subst e1; subst e2
   have HL0 := za.mk hl
   have HI0 := za.mk hi0
   have HK0 := za.mk hk'
   have HI1 := za.mk hi1
   have HWi : za (wrap64 ((i0 : Int) + 1) = ((i0 + 1 : Nat) : Int)) := ⟨by unfold wrap64; omega⟩
   have GG := za.mk hge
   have hne : ((i0 : Int) == -1) = false := beq_eq_false_iff_ne.mpr (by omega)
   rw [List.nil_append, List.drop_zero, Nat.sub_zero] at hl
   have H' := za.mk hl
   clear hl hi0 hk' hge hgl HL0 hi1
   go_enter Try.func84, Try.ntmps84
   go_wp2_with (first | (go_at_call 79; (with_reducible refine (impl_Case_79_85.calls k _ _ l0 g200 g201 g202 a1_0 a1_1 A1_2 c1_2 l1_2 a1_3 a1_4 a1_5 a1_6 a1_7 _ _ ?side1 ?side2 ?side3 ?side4 ?side5 ?side6 ?side7 A3.out).mono ?_); (case side1 => exact uQ HO); (case side2 => exact (Kd.R_reads' HO.out).2.1); (case side3 => exact zr B30.out sB); (case side4 => exact zr B31.out sB); (case side5 => exact zr B32.out sB); (case side6 => exact Kd.C_below HR1_2.out sB); (case side7 => exact HC1_2.out); rintro e w4 ⟨rfl, hb⟩; replace HO := dR HO hb; replace HB := za.mk (ze sB hb); clear hb))
   go_loopg [5, 6] k' (fun kq v5 v6 w' => ∃ (x5 x6 : Int) (m : List S38), v5 = .int .i64 x5 ∧ v6 = .int .i64 x6 ∧ za (0 ≤ x5 ∧ x5 < x6 ∧ x6 ≤ l0.length ∧ x6 ≤ 9223372036854775807) ∧ za (impl_Case_84_85.l0 kq l0 (m.take x5.toNat) x6 a1_0 a1_1 l1_2 a1_3 a1_4 a1_5 a1_6 a1_7 = some r) ∧ za (kq ≤ k') ∧ za (m.length = l0.length) ∧ za (m.drop x6.toNat = l0.drop x6.toNat) ∧ za (Kd.R k38 38 w' w0.heap.size (fun _ => True) (.slice (some ⟨g, 0, none⟩) l0.length c0) m) ∧ za (Below w0.heap.size w0 w'))
   case atStart => exact ⟨(i0 : Int), ((i0 + 1 : Nat) : Int), l0, rfl, (by rw [HWi.out]), ⟨by have := HI0.out; have := HI1.out; omega⟩, ⟨by rw [Int.toNat_natCast]; exact H'.out⟩, ⟨Nat.le_refl _⟩, ⟨rfl⟩, ⟨rfl⟩, ⟨uR HO⟩, ⟨sB⟩⟩
   case round =>
    clear H' HO HB
    obtain ⟨x5, x6, m, rfl, rfl, HX, HA, HK1, HL, HD, HO, HB⟩ := hrel
    obtain ⟨h5, h56, h6, h63⟩ := HX.out
    cases gk with
    | zero => exact absurd HA.out (by simp [impl_Case_84_85.l0])
    | succ k1 =>
     have H := HA.out
     clear HA
     rw [impl_Case_84_85.l0] at H
     by_cases c7 : x6 < (l0.length : Int)
     · rw [if_pos c7, if_pos (by omega)] at H
       obtain ⟨t405, A90, H⟩ := Option.bind_eq_some_iff.mp H
       have A9 := za.mk A90
       clear A90
       have c7b : decide (x6 < (l0.length : Int)) = true := decide_eq_true c7
       have hrd : zf m x6 = zf l0 x6 := by
         have := congrArg (fun l => l.head?) HD.out
         simp only [List.head?_drop] at this
         unfold zf
         rw [List.getD_eq_getElem?_getD, List.getD_eq_getElem?_getD, this]
       have p6 : (0 ≤ x6) = True := eq_true (by omega)
       have q6 : (x6 < (l0.length : Int)) = True := eq_true c7
       obtain ⟨ad, e_, hx0, hx1⟩ := zsb (Kd.R_reads' HO.out).2.2 x6 (by omega) (by have := HL.out; omega)
       cases e_
       rw [hrd] at hx0 hx1
       rw [show (⟨g, 0, none⟩ : Addr).add (x6.toNat * 2) = ⟨g, x6.toNat * 2, none⟩ from zsd _ _] at hx0 hx1
       have hdd : m.drop (x6 + 1).toNat = l0.drop (x6 + 1).toNat := by
         have := congrArg (List.drop 1) HD.out
         rw [List.drop_drop, List.drop_drop] at this
         rw [show (x6 + 1).toNat = x6.toNat + 1 by omega]; exact this
       have HDD := za.mk hdd
       have HRD := za.mk hrd
       clear hdd hrd
       cases t405 with
       | true =>
         rw [if_pos rfl] at H
         have hw : wrap64 (x6 + 1) = x6 + 1 ∧ x6 + 1 ≤ 9223372036854775807 := by
           rcases wrapB (j := x6.toNat) (by omega) with ⟨h1, e⟩ | e
           · rw [show ((x6.toNat : Nat) : Int) = x6 by omega] at e h1; exact ⟨by rw [e]; omega, h1⟩
           · rw [show ((x6.toNat : Nat) : Int) = x6 by omega] at e; exact absurd H (zre _ _ _ _ _ _ _ _ _ _ _ _ _ e)
         rw [hw.1] at H
         have H' := za.mk H
         have HW := za.mk hw
         clear H hw
         go_wp2_with (first | ((with_reducible refine zn (N := 7) rfl ?_); refine bx (N := 7) #[.int .i8 0, .bool false] 38 rfl ?_; intro gb hg w11 hbox hb; have BV := za.mk hbox; have GE := gB hg; replace HO := za.mk (Kd.R_below (Kd.R_elderB (uR HO) gb (Nat.le_of_eq hg.symm)) hb); replace HB := za.mk (ze sB hb); clear hb hbox hg; obtain ⟨hcz0, hcz1⟩ := xc2 BV; obtain ⟨hfz0, hfz1⟩ := xf2 BV) | (go_at_call 85; (with_reducible refine (impl_DecodeNear_1.calls k1 ((zf l0 x6).f0) ((zf l0 x6).f1) g200 a1_0 a1_1 A1_2 c1_2 l1_2 g201 a1_3 a1_4 a1_5 a1_6 g202 a1_7 true _ ?side1 ?side2 ?side3 ?side4 ?side5 A9.out).mono ?_); (case side1 => exact zr B30.out sB); (case side2 => exact Kd.C_below HR1_2.out sB); (case side3 => exact HC1_2.out); (case side4 => exact zr B31.out sB); (case side5 => exact zr B32.out sB); rintro e w16 ⟨rfl, hb⟩; have n0_ := za.mk (Kd.R_below (uR' (Kd.R_mono (Kd.R_far (p := ⟨gb, 1, none⟩) (Kd.R_far (p := ⟨gb, 0, none⟩) (Kd.R_mono HO.out (fun k_ hk => (⟨hk, hk.2⟩ : _ ∧ k_ ≠ gb))) (fun _ hk => hk.2) (.int .i8 ((zf l0 x6).f0))) (fun _ hk => hk.2) (.bool ((zf l0 x6).f1))) (fun _ h_ => h_.1))) hb); have n4_ := za.mk (zr (g := gb) (o := .cells #[.int .i8 ((zf l0 x6).f0), .bool ((zf l0 x6).f1)] 38 (0, 0)) (by (with_reducible repeat (first | refine zc ?_ _ | refine zd ?_ | refine zb ?_ _)); refine zl (cs := #[.int .i8 ((zf l0 x6).f0), .bool false]) ?_ 1 _ rfl; (with_reducible repeat (first | refine zc ?_ _ | refine zd ?_ | refine zb ?_ _)); refine zl (cs := #[.int .i8 0, .bool false]) ?_ 0 _ rfl; (with_reducible repeat (first | refine zc ?_ _ | refine zd ?_ | refine zb ?_ _)); exact BV.out) hb); have n5_ := za.mk (ze sB hb); clear HO; clear BV; clear HB; have HO := n0_; have BV := n4_; have HB := n5_; clear n0_ n4_ n5_; clear hb; obtain ⟨hcz2, hcz3⟩ := xc2 BV; obtain ⟨hfz2, hfz3⟩ := xf2 BV))
         go_roundg k1
         case measure => have := HK1.out; omega
         case rel => exact ⟨x5, x6 + 1, m, rfl, (by first | rfl | (rw [HW.out.1]; done) | (simp [HW.out.1]; done)), ⟨by have := HW.out; have := HX.out; omega⟩, H', ⟨by have := HK1.out; omega⟩, HL, HDD, ⟨uR' (Kd.R_mono HO.out (fun _ hk => trivial))⟩, ⟨sB⟩⟩
       | false =>
         rw [if_neg (by decide)] at H
         by_cases cy : (m.take x5.toNat).length < 70368744177664
         · rw [if_pos cy] at H
           have hw : wrap64 (x6 + 1) = x6 + 1 ∧ x6 + 1 ≤ 9223372036854775807 := by
             rcases wrapB (j := x6.toNat) (by omega) with ⟨h1, e⟩ | e
             · rw [show ((x6.toNat : Nat) : Int) = x6 by omega] at e h1; exact ⟨by rw [e]; omega, h1⟩
             · rw [show ((x6.toNat : Nat) : Int) = x6 by omega] at e; exact absurd H (zre _ _ _ _ _ _ _ _ _ _ _ _ _ e)
           rw [hw.1] at H
           have hw5 : wrap64 (x5 + 1) = x5 + 1 := by unfold wrap64; omega
           obtain ⟨m', hm'⟩ : ∃ m' : List S38, m' = m.set x5.toNat ⟨(zf l0 x6).f0, (zf l0 x6).f1⟩ := ⟨_, rfl⟩
           have hml := HL.out
           have ht' : m.take x5.toNat ++ [(⟨(zf l0 x6).f0, (zf l0 x6).f1⟩ : S38)] = m'.take (x5 + 1).toNat := by
             rw [hm', show (x5 + 1).toNat = x5.toNat + 1 by omega, List.take_add_one, List.take_set_of_le (Nat.le_refl _), List.getElem?_set_self (by omega)]; rfl
           have hd' : m'.drop (x6 + 1).toNat = l0.drop (x6 + 1).toNat := by
             rw [hm', List.drop_set_of_lt (by omega)]; exact HDD.out
           rw [ht'] at H
           have H' := za.mk H
           have HW := za.mk hw
           have HW5 := za.mk hw5
           have HD' := za.mk hd'
           have HM' := za.mk hm'
           have HL' : za (m'.length = l0.length) := ⟨by rw [hm', List.length_set]; exact hml⟩
           have p5 : (0 ≤ x5) = True := eq_true (by omega)
           have q5 : (x5 < (l0.length : Int)) = True := eq_true (by omega)
           clear H hw hw5 hd' ht' hm' hml
           go_wp2_with (first | ((with_reducible refine zn (N := 7) rfl ?_); refine bx (N := 7) #[.int .i8 0, .bool false] 38 rfl ?_; intro gb hg w11 hbox hb; have BV := za.mk hbox; have GE := gB hg; replace HO := za.mk (Kd.R_below (Kd.R_elderB (uR HO) gb (Nat.le_of_eq hg.symm)) hb); replace HB := za.mk (ze sB hb); clear hb hbox hg; obtain ⟨hcz0, hcz1⟩ := xc2 BV; obtain ⟨hfz0, hfz1⟩ := xf2 BV) | (go_at_call 85; (with_reducible refine (impl_DecodeNear_1.calls k1 ((zf l0 x6).f0) ((zf l0 x6).f1) g200 a1_0 a1_1 A1_2 c1_2 l1_2 g201 a1_3 a1_4 a1_5 a1_6 g202 a1_7 false _ ?side1 ?side2 ?side3 ?side4 ?side5 A9.out).mono ?_); (case side1 => exact zr B30.out sB); (case side2 => exact Kd.C_below HR1_2.out sB); (case side3 => exact HC1_2.out); (case side4 => exact zr B31.out sB); (case side5 => exact zr B32.out sB); rintro e w16 ⟨rfl, hb⟩; have n0_ := za.mk (Kd.R_below (uR' (Kd.R_mono (Kd.R_far (p := ⟨gb, 1, none⟩) (Kd.R_far (p := ⟨gb, 0, none⟩) (Kd.R_mono HO.out (fun k_ hk => (⟨hk, hk.2⟩ : _ ∧ k_ ≠ gb))) (fun _ hk => hk.2) (.int .i8 ((zf l0 x6).f0))) (fun _ hk => hk.2) (.bool ((zf l0 x6).f1))) (fun _ h_ => h_.1))) hb); have n4_ := za.mk (zr (g := gb) (o := .cells #[.int .i8 ((zf l0 x6).f0), .bool ((zf l0 x6).f1)] 38 (0, 0)) (by (with_reducible repeat (first | refine zc ?_ _ | refine zd ?_ | refine zb ?_ _)); refine zl (cs := #[.int .i8 ((zf l0 x6).f0), .bool false]) ?_ 1 _ rfl; (with_reducible repeat (first | refine zc ?_ _ | refine zd ?_ | refine zb ?_ _)); refine zl (cs := #[.int .i8 0, .bool false]) ?_ 0 _ rfl; (with_reducible repeat (first | refine zc ?_ _ | refine zd ?_ | refine zb ?_ _)); exact BV.out) hb); have n5_ := za.mk (ze sB hb); clear HO; clear BV; clear HB; have HO := n0_; have BV := n4_; have HB := n5_; clear n0_ n4_ n5_; clear hb; obtain ⟨hcz2, hcz3⟩ := xc2 BV; obtain ⟨hfz2, hfz3⟩ := xf2 BV) | ((with_reducible refine zbb (t := 38) (p := 33) rfl ?_); obtain ⟨ce, hcl, hM, hcc, hfr⟩ := Kd.R_elem HO.out z38 x5 (by have := HX.out; omega) (by have := HX.out; omega); obtain rfl := znd hM; have HP := Kd.R_seg HO.out x5 (by have := HX.out; omega) (by have := HX.out; omega) (seg := [.int .i8 (zf l0 x6).f0, .bool (zf l0 x6).f1]) (j := 0) hcl hcc (show 0 + 2 ≤ 2 by omega) (x' := ⟨(zf l0 x6).f0, (zf l0 x6).f1⟩) (znb _ _ _ ⟨(zf l0 x6).f0, (zf l0 x6).f1⟩) (fun _ hk => hk); have u0 : w16.cell? ⟨g, x5.toNat * 2, none⟩ = some (.int .i8 _) := hcc 0 _ rfl; have u1 : w16.cell? ⟨g, x5.toNat * 2 + 1, none⟩ = some (.bool _) := hcc 1 _ rfl; have t0 : w16.frozen? ⟨g, x5.toNat * 2, none⟩ = false := hfr 0; have t1 : w16.frozen? ⟨g, x5.toNat * 2 + 1, none⟩ = false := hfr 1; clear hcl hcc hfr hM; refine zza (t := 38) (p := 33) (v := ?vo) (w1 := ((w16.setCell ⟨g, x5.toNat * 2, none⟩ (.int .i8 (zf l0 x6).f0)).setCell ⟨g, x5.toNat * 2 + 1, none⟩ (.bool (zf l0 x6).f1))) ?hg ?ho ?hn ?hr ?_; (case ho => rfl); (case hg => rfl); (case hn => rfl); (case hr => first | (go_simp; done) | (go_simp; rfl)); intro w12 hw; have n0_ := za.mk (show Kd.R k38 38 w12 w0.heap.size (fun k_ => True ∧ k_ ≠ gb) (.slice (some ⟨g, 0, none⟩) l0.length c0) m' from by rw [hw, HM'.out]; exact HP.1); have n1_ := za.mk (show Below w0.heap.size w0 w12 from by rw [hw]; exact zz (zz HB.out GG.out) GG.out); clear HO; clear HB; have HO := n0_; have HB := n1_; clear n0_ n1_ HP hw))
           go_roundg k1
           case measure => have := HK1.out; omega
           case rel => exact ⟨x5 + 1, x6 + 1, m', (by first | (rw [HW5.out]; done) | rfl), (by first | (rw [HW.out.1]; done) | rfl), ⟨by have := HW.out; have := HX.out; omega⟩, H', ⟨by have := HK1.out; omega⟩, HL', HD', ⟨uR' (Kd.R_mono HO.out (fun _ hk => trivial))⟩, ⟨sB⟩⟩
         · rw [if_neg cy] at H; exact absurd H (by simp)
     · rw [if_neg c7] at H
       have hr := Option.some.inj H
       have c7b : decide (x6 < (l0.length : Int)) = false := decide_eq_false c7
       obtain ⟨ys, hy, hty, hgy⟩ := zte (l0.length - x5.toNat) x5.toNat wr m (by omega) HO.out
       have hcells := zef HO.out (i := x5.toNat) (m := l0.length - x5.toNat) (by omega)
       have hclr := clear38_run wr g x5.toNat (l0.length - x5.toNat) (c0 - x5.toNat) (by omega) (fun j hj => (hcells j hj).1) (fun j hj => (hcells j hj).2)
       have hroom : l0.length ≤ c0 := (Kd.R_reads' HO.out).2.1
       obtain ⟨i020, hi020, _, hsz20, _⟩ := info_parts zyb
       have hcf : ∀ W, (Instr.slice 55 (.slice (some ⟨g, 0, none⟩) l0.length c0) (some (.int .i64 x5)) none none).run Try.prog W = .ok (.slice (some ⟨g, x5.toNat * 2, none⟩) (l0.length - x5.toNat) (c0 - x5.toNat)) W := by
         intro W
         rw [cut_from (P := Try.prog) 55 38 .i64 Try.underlying55 hi020 2 hsz20 _ l0.length c0 x5 (by omega) (by omega) W, if_neg (by omega)]
         simp [zsd]
       have hct := cut_to (P := Try.prog) 55 38 .i64 Try.underlying55 hi020 (some ⟨g, 0, none⟩) l0.length c0 x5 (by omega) (by omega) hroom
       have hyl : x5.toNat ≤ ys.length := by have := (Kd.R_reads' hy).1; omega
       have hfin : Kd.R k38 38 (wr.setCells g (x5.toNat * 2) (zs38 (l0.length - x5.toNat))) w0.heap.size (fun _ => True) (.slice (some ⟨g, 0, none⟩) x5.toNat c0) r := by
         have := Kd.R_take (m := x5.toNat) hy hyl
         rw [hty, hr] at this; exact this
       have hbel := zce HB.out (some g) HB.out.size hgy (fun k e => by injection e with e; rw [← e]; exact GG.out)
       have F1 := za.mk hfin
       have F2 := za.mk hbel
       clear hfin hbel hyl hgy hty hy hcells H hr hroom hi020 hsz20 h5 h56 h6 h63
       go_wp2
       go_ret
       exact ⟨_, rfl, F1.out, F2.out⟩
end Go.Proofs.Ytmfbcklaomigaaa.N
